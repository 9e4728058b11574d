import Derived.Test.YtiimlopcifljeaaGreatDoorQk16
import Derived.Test.YtiimlopcifljeaaGreatDoorQk13
namespace Go.Proofs.YtiimlopcifljeaaGreatDoor.Em
open Go.ChangeShapes Go.WideShapes Go.ChangeAt Go.RowKit En
set_option linter.unusedVariables false
set_option linter.unusedSimpArgs false
set_option maxRecDepth 100000
set_option maxHeartbeats 1600000
variable {A:Book} {σ:St} {w:World}
theorem trnCs_append (a b:List Trn):trnCs (a++b)=trnCs a++trnCs b:=by simp[trnCs]
theorem infoT:(Tryz.prog.info? 332).map (fun i=>(i.zero,i.size,i.bytes))=some (some (.agg #[zi 0,zu 0,zu 0]),3,24):=by kernel_rfl
theorem wp_turn {ops:Array Oper} {rest:List Oper} {o:Oper} {a:Act} {Q:Exit→Act→World→Prop} (w:World) (hgd:o.guard=none) (s x:Operand)
 (ho:o.op=.call {callee:=.builtin .append,args:=#[s,x],argTypes:=#[330,330]})
 (w0:World) (hb:Below w0.heap.size w0 w) (av:Option Addr) (m cap:Nat) (xs:List Value) (hs:a.eval s=.slice av m cap) (hown:w.ownsRow w0.heap.size 332 3 (.slice av m cap) m xs) (hm:m<4000000)
 (t0 t1 t2:Int) (hx:a.eval x=.slice (some ⟨w.heap.size,0,none⟩) 1 1)
 (h:∀ av' cap' w',w'.ownsRow w0.heap.size 332 3 (.slice av' (m+1) cap') (m+1) (xs++[zi t0,zu t1,zu t2])→Below w0.heap.size w0 w'→wpList Tryz.prog ops Q rest (a.put o.dst (.slice av' (m+1) cap')) w'):
 wpList Tryz.prog ops Q (o::rest) a (w.alloc (.cells #[zi t0,zu t1,zu t2] 332)):=by
 obtain⟨ii,hii,hz0,hz1,hz2⟩:=info_parts infoT;have hw:=hb.size;have hown':(w.alloc (.cells #[zi t0,zu t1,zu t2] 332)).ownsRow w0.heap.size 332 3 (.slice av m cap) m xs:=own_same hown fun g hg=>Below.heap_alloc _ _ _ (hown.lt g hg).2
 refine Ow.wpList_append_to _ hgd s x 330 ho w0.heap.size 332 ii _ 3 24 Tryz.underlying330 hii hz0 hz1 hz2 rfl (by decide) (.slice av m cap) m xs hs hown' ⟨w.heap.size,0,none⟩ 1 1 (by omega) [zi t0,zu t1,zu t2] hx rfl (fun j u hu=>Ow.new_row w [zi t0,zu t1,zu t2] _ _ rfl j u hu) (by intro u hu;simp at hu;rcases hu with rfl|rfl|rfl<;>rfl) (by unfold maxLen;omega) (by omega) (by simp;omega) ?_;intro v' w' q1 q2 q3;obtain⟨av',cap',rfl,_⟩:=Ow.own_form q1;exact h av' cap' w' q1 ((hb.alloc hw _).grown q2 (by simp;omega) (fun g hg=>(hown.lt g hg).1))
theorem frow_of_own {L:Lab} {w0 w:World} {av:Option Addr} {m cap:Nat} {xs:List Value} (h:w.ownsRow w0.heap.size 332 3 (.slice av m cap) m xs) (hL:∀ b,w0.heap.size≤b→L b=none):FRow L w 3 (.slice av m cap) xs:=by
 obtain⟨a,c,e,h1,h2,h3⟩:=Ow.own_form h;obtain⟨rfl,rfl⟩:av=a∧cap=c:=by simpa using e
 refine⟨av,m,cap,rfl,h.1,h1,by unfold maxLen;omega,?_⟩
 rcases h.2 with ⟨h0,hn⟩|⟨g,cap',cur,hv,hb,hg,hnc,hcm,hcs,htake⟩
 · exact .inl (by first|exact h0|omega)
 · obtain⟨rfl,rfl⟩:av=some ⟨g,0,none⟩∧cap=cap':=by simpa using hv
   refine .inr ⟨g,0,rfl,hL g (h.lt g rfl).1,(h.lt g rfl).2,fun j hj=>?_⟩;rw[Nat.zero_add];exact h.cellAt j hj
theorem turns_at (hR:Rep A σ w) (s:Nat) (l:List Trn) (lv:Value) (hl:FRow A.L w 3 lv (trnCs l)) (r:Res) (re rv ro rr:Int) (vp:Value) (hcs:resCs r vp=[zi re,zi rv,vp,zi ro,zi rr]) (hp:(vp=A.vpairs s∧r.pairs=(σ.c s).r.pairs)∨(vp=.slice none 0 0∧r.pairs=[])):
 Calls Tryz.prog 210 #[.pointer (some ⟨A.be,0,none⟩),.pointer (some ⟨A.bt s,0,none⟩),.pointer (some ⟨A.bc s,0,none⟩),lv,.agg #[zi re,zi rv,vp,zi ro,zi rr]] w (Tells A w s (σ,.turns l r)):=by
 have h:=turns_any hR s l lv hl r vp hp;simp only[resCs,List.cons.injEq,Value.int.injEq,true_and,and_true] at hcs;obtain⟨e1,e2,e3,e4⟩:=hcs;rw[e1,e2,e3,e4] at h;exact h
def KeysOk (σ:St) (t:Txn):Prop:=∀ key∈t.keys,∃ x,t.cell key=some x∧(x.own=0∨VL σ x.own)∧(x.old=0∨VL σ x.old)
def cTurn (t:Txn) (key:Nat):List Trn:=
 (if ((t.cell key).getD default).own≠0 then ⟨wslot ((t.cell key).getD default).own 0,0,t.end_⟩::(if ((t.cell key).getD default).there then [] else [⟨wslot ((t.cell key).getD default).own 1,0,t.end_⟩]) else [])
 ++(if ((t.cell key).getD default).old≠0 then [⟨wslot ((t.cell key).getD default).old 1,0,t.end_⟩] else [])
theorem commitTurns_eq (σ:St) (t:Txn):commitTurns σ t=t.keys.flatMap (cTurn t):=rfl
theorem flat_snoc (f:Nat→List Trn) (l:List Nat) (k:Nat) (h:k<l.length):(l.take (k+1)).flatMap f=(l.take k).flatMap f++f (l.getD k 0):=by
 rw[List.take_succ_eq_append_getElem h,List.flatMap_append];simp[List.getD,h]
theorem cTurn_length (t:Txn) (key:Nat):(cTurn t key).length≤3:=by
 unfold cTurn
 repeat' split
 all_goals simp
theorem flat_length (f:Nat→List Trn) (hf:∀ k,(f k).length≤3) (l:List Nat):(l.flatMap f).length≤3*l.length:=by
 induction l with
 |nil=>simp
 |cons x l ih=>simp only[List.flatMap_cons,List.length_append,List.length_cons];have:=hf x;omega
theorem help_txns (σ:St) (x:Nat):(σ.help x).txns=σ.txns:=by unfold St.help St.cas;split<;>rfl
theorem help_calls (σ:St) (x:Nat):(σ.help x).calls=σ.calls:=by unfold St.help St.cas;split<;>rfl
theorem k_helpJ (hR:Rep A σ w) (s:Nat) (t:Txn) (ht:σ.txns.getD s none=some t) (hen:t.end_<281474976710656) (hid:t.id≤2000) (hrl:t.reads.length<1000000) (hcnt:σ.count<4000000000000000000) (b0 b1 b2:Nat)
 (B0:Box A.L w b0 (.pointer (some ⟨A.be,0,none⟩))) (B1:Box A.L w b1 (.pointer (some ⟨A.bt s,0,none⟩))) (B2:Box A.L w b2 (.pointer (some ⟨A.bc s,0,none⟩))):
 Calls Tryz.prog 203 #[.pointer (some ⟨b0,0,none⟩),.pointer (some ⟨b1,0,none⟩),.pointer (some ⟨b2,0,none⟩)] w (Ran A w s (σ.run s .helpJ)):=by
 have c0:=B0.cell;have c1:=B1.cell;have t4:w.cell? ⟨A.bt s,4,none⟩=some (zu (t.end_:Int)):=hR.txn ht 4 rfl;have t0:w.cell? ⟨A.bt s,0,none⟩=some (zi (t.id:Int)):=hR.txn ht 0 rfl;have HC:=zH (flip (clock_any t.end_ t.id hen (by omega) w.drew));have hlo:lastOf (clockW t.end_ t.id)=t.id:=by unfold lastOf clockW;omega
 have HL:=zH (help_any hR.drew (clockW t.end_ t.id) (by unfold clockW;omega) (by omega) hcnt);have HG:=zG A.L w;have hrun:σ.run s .helpJ=(σ.help (clockW t.end_ t.id),some (judgeK t 0)):=by
  have e:(σ.help (clockW t.end_ t.id)).t s=t:=by unfold St.t;rw[help_txns,ht];rfl
  simp only[St.run,txn_get ht,e]
 rw[hrun];have HB:Hid (∀ w1,Rep A (σ.help (clockW t.end_ t.id)) w1→Grow A.L w A.L w1→Calls Tryz.prog 204 #[.pointer (some ⟨A.be,0,none⟩),.pointer (some ⟨A.bt s,0,none⟩),.pointer (some ⟨A.bc s,0,none⟩),zi 0] w1 (Tells A w1 s (σ.help (clockW t.end_ t.id),judgeK t 0))∧w1.cell? ⟨b0,0,none⟩=some (.pointer (some ⟨A.be,0,none⟩))∧w1.cell? ⟨b1,0,none⟩=some (.pointer (some ⟨A.bt s,0,none⟩))∧w1.cell? ⟨b2,0,none⟩=some (.pointer (some ⟨A.bc s,0,none⟩))):=
  fun w1 q g=>⟨judge_any q s t (by rw[help_txns];exact ht) 0 (Nat.zero_le _) hrl,(B0.grow g).cell,(B1.grow g).cell,(B2.grow g).cell⟩
 clear hR ht hen hid hrl hcnt B0 B1 B2 hrun hlo;generalize σ.help (clockW t.end_ t.id)=σ1 at*;generalize judgeK t 0=k at*;go_enter Tryz.func203,Tryz.ntmps203;go_wp2_with fail;refine wp_region_still_tail 10 (by kernel_rfl) (by kernel_rfl) ?_;simp only[zta,ztb,ztc,ztd]
 repeat still_step
 still_call HC.out
 refine wpStill_nil ?_;change wpList _ _ _ _ _ w.drew;generalize w.drew=wd at*;go_wp2_with (first|(go_at_call 68;refine HL.out.mono ?_;rintro e w1 ⟨rfl,q1,q2⟩;have g1:=HG.out.trans q2;obtain⟨hf,d0,d1,d2⟩:=HB.out w1 q1 g1;have HQ:=zH (zA hf g1);clear q1 q2 g1 hf)|(go_at_call 204;refine HQ.out.1.mono ?_;rintro e w2 ⟨A2,v,rfl,p1,p2,p3,p4⟩));go_ret;exact⟨A2,v,rfl,p1,HQ.out.2.trans p2,p3,p4⟩
set_option maxHeartbeats 16000000 in
theorem k_commit (hR:Rep A σ w) (s:Nat) (t:Txn) (ht:σ.txns.getD s none=some t) (hm:A.mt s=0) (hen:t.end_≤1099511627776) (hid:t.id≤2000) (hkl:t.keys.length<1000000) (hK:KeysOk σ t) (htl:σ.tale.length<1000000) (hcnt:σ.count<4000000000000000000) (b0 b1 b2:Nat)
 (B0:Box A.L w b0 (.pointer (some ⟨A.be,0,none⟩))) (B1:Box A.L w b1 (.pointer (some ⟨A.bt s,0,none⟩))) (B2:Box A.L w b2 (.pointer (some ⟨A.bc s,0,none⟩))):
 Calls Tryz.prog 302 #[.pointer (some ⟨b0,0,none⟩),.pointer (some ⟨b1,0,none⟩),.pointer (some ⟨b2,0,none⟩)] w (Ran A w s (σ.run s .commit)):=by
 have c0:=B0.cell;have c1:=B1.cell;have e2:=hR.z2;have t4:w.cell? ⟨A.bt s,4,none⟩=some (zu (t.end_:Int)):=hR.txn ht 4 rfl;have t0:w.cell? ⟨A.bt s,0,none⟩=some (zi (t.id:Int)):=hR.txn ht 0 rfl;have HP:=zH (place_still hR.drew t.id (by omega));have HA:=zH (pack_still 3 (t.end_:Int) 3 t.end_ rfl rfl (by omega) (by omega) w.drew);have HL:=zH (store_any hR.drew (σ.place t.id) (pack 3 t.end_) (by rw[hR.nw];unfold St.place;omega) hcnt);have HG:=zG A.L w;obtain⟨σ2,hσ2⟩:∃ σ2,σ2=(σ.put (σ.place t.id) (pack 3 t.end_)).tellEnd s {kind:=5,t:=t.id}:=⟨_,rfl⟩
 have hrun:σ.run s .commit=(σ2,some (.turns (t.keys.flatMap (cTurn t)) {over:=3})):=by
  rw[hσ2,←commitTurns_eq (σ.put (σ.place t.id) (pack 3 t.end_)) t];simp only[St.run,txn_get ht];rfl
 rw[hrun];obtain⟨t2,ht2,hk2,hc2,hen2⟩:∃ t2,σ2.txns.getD s none=some t2∧t2.keys=t.keys∧t2.cells=t.cells∧t2.end_=t.end_:=by
  have ht1:(σ.put (σ.place t.id) (pack 3 t.end_)).txns.getD s none=some t:=ht;rw[hσ2];unfold St.tellEnd;rw[txn_get ht1]
  by_cases ho:t.over=true
  · rw[if_pos ho];exact⟨t,ht1,rfl,rfl,rfl⟩
  · rw[if_neg ho]
    refine⟨{t with over:=true},?_,rfl,rfl,rfl⟩;show ((σ.put (σ.place t.id) (pack 3 t.end_)).setT s {t with over:=true}).txns.getD s none=_;rw[getT_set (lt_of_txn ht1),if_pos rfl]
 have hsl2:σ2.slots=σ.slots:=by rw[hσ2];unfold St.tellEnd;split<;>rfl
 have HB1:Hid (∀ w1,Rep A (σ.put (σ.place t.id) (pack 3 t.end_)) w1→Grow A.L w A.L w1→Calls Tryz.prog 207 #[.pointer (some ⟨A.be,0,none⟩),.pointer (some ⟨A.bt s,0,none⟩),.agg #[zi 5,zi (t.id:Int),zu 0,zi 0,zi 0,zi 0,zi 0,zi 0,zi 0,.slice none 0 0,zi 0,zi 0]] w1.drew (Told A w1.drew s σ2)∧w1.cell? ⟨b0,0,none⟩=some (.pointer (some ⟨A.be,0,none⟩))∧w1.cell? ⟨b1,0,none⟩=some (.pointer (some ⟨A.bt s,0,none⟩))∧w1.cell? ⟨A.bt s,0,none⟩=some (zi (t.id:Int))):=by
  intro w1 q g;rw[hσ2];exact⟨tell_any q.drew s t ht hm _ 5 t.id 0 rfl rfl htl,(B0.grow g).cell,(B1.grow g).cell,q.txn ht 0 rfl⟩
 have HB2 : Hid (∀ A2 w2, Rep A2 σ2 w2 → Grow A.L w A2.L w2 → Stay A A2 s → A2.bx = A.bx → ∀ w3, Below w2.heap.size w2 w3 → w3.cell? ⟨b0, 0, none⟩ = some (.pointer (some ⟨A.be, 0, none⟩)) ∧ w3.cell? ⟨b1, 0, none⟩ = some (.pointer (some ⟨A.bt s, 0, none⟩)) ∧ w3.cell? ⟨b2, 0, none⟩ = some (.pointer (some ⟨A.bc s, 0, none⟩)) ∧ w3.cell? ⟨A.bt s, 4, none⟩ = some (zu (t.end_ : Int)) ∧ w3.cell? ⟨A.bt s, 7, none⟩ = some (.map (some (A.bm s))) ∧ w3.cell? ⟨A.bt s, 6, none⟩ = some (A2.vkeys s) ∧
     (∃ av cap,A2.vkeys s=.slice av t.keys.length cap)∧(∀ k,k<t.keys.length→∀ g cap,A2.vkeys s=.slice (some ⟨g,0,none⟩) t.keys.length cap→w3.cell? ⟨g,k,none⟩=some (zi (t.keys.getD k 0:Int)))∧(∀ k,k<t.keys.length→∃ g cap,A2.vkeys s=.slice (some ⟨g,0,none⟩) t.keys.length cap)∧
     (∀ key x,t.cell key=some x→(Instr.lookup 143 (.map (some (A.bm s))) (zi (key:Int)) false).run Tryz.prog w3=.ok (.pointer (some ⟨A.bx s key,0,none⟩)) w3∧w3.cell? ⟨A.bx s key,0,none⟩=some (zu (x.own:Int))∧w3.cell? ⟨A.bx s key,1,none⟩=some (zu (x.old:Int))∧w3.cell? ⟨A.bx s key,2,none⟩=some (.bool x.there))):=by
  intro A2 w2 q g st hbx w3 hb;have r3:=q.below hb;have gg:=g.trans (Grow.below (L:=A2.L) hb);have a4:=r3.txn ht2 4 (v:=zu (t2.end_:Int)) rfl;have a7:=r3.txn ht2 7 (v:=.map (some (A2.bm s))) rfl;have a6:=r3.txn ht2 6 (v:=A2.vkeys s) rfl;rw[st.bt] at a4 a7 a6;rw[st.bm] at a7;rw[hen2] at a4;have hown:=r3.mem.all (.keys s);rw[mem_keys ht2,hk2] at hown;obtain⟨av,cap,hv,_⟩:=Ow.own_form hown.1;have hget:∀ k,k<t.keys.length→(t.keys.map i64)[k]? =some (i64 (t.keys.getD k 0)):=fun k hk=>by simp[List.getD,hk]
  refine⟨(B0.grow gg).cell,(B1.grow gg).cell,(B2.grow gg).cell,a4,a7,a6,⟨av,cap,hv⟩,fun k hk g' cap' hv'=>?_,fun k hk=>?_,fun key x hx=>?_⟩
  · obtain⟨g1,cap1,hv1,hc1⟩:=own_at hown.1 (hget k hk)
    rw[hv'] at hv1;obtain⟨rfl,_⟩:g'=g1∧cap'=cap1:=by simpa using hv1
    exact hc1
  · obtain⟨g1,cap1,hv1,hc1⟩:=own_at hown.1 (hget k hk)
    exact⟨g1,cap1,hv1⟩
  · have hx2:t2.cell key=some x:=by unfold Txn.cell at hx ⊢;rw[hc2];exact hx
    have hl:=lookup_run r3 ht2 key;have hpx:A2.px s t2 key=.pointer (some ⟨A2.bx s key,0,none⟩):=by unfold Book.px;rw[hx2];rfl
    rw[hpx,hbx,st.bm] at hl;obtain⟨x0,x1,x2⟩:=r3.cel ht2 hx2;rw[hbx] at x0 x1 x2;exact⟨hl,x0,x1,x2⟩
 have HT:=zH (Word.time_yes (t.end_:Int) (by omega) (by omega));have HTU:Hid (∀ A2 w2,Rep A2 σ2 w2→Stay A A2 s→∀ w3 av m cap,Below w2.heap.size w2 w3→w3.ownsRow w2.heap.size 332 3 (.slice av m cap) m (trnCs (t.keys.flatMap (cTurn t)))→Calls Tryz.prog 210 #[.pointer (some ⟨A.be,0,none⟩),.pointer (some ⟨A.bt s,0,none⟩),.pointer (some ⟨A.bc s,0,none⟩),.slice av m cap,.agg #[zi 0,zi 0,.slice none 0 0,zi 3,zi 0]] w3 (Tells A2 w3 s (σ2,.turns (t.keys.flatMap (cTurn t)) {over:=3}))):=by
  intro A2 w2 q st w3 av m cap hb ho;have h:=turns_at (q.below hb) s (t.keys.flatMap (cTurn t)) (.slice av m cap) (frow_of_own ho q.mem.fresh) {over:=3} 0 0 3 0 (.slice none 0 0) rfl (.inr ⟨rfl,rfl⟩);rw[st.be,st.bt,st.bc] at h;exact h
 have HS:Hid (∀ (l n:Nat),VL σ l→n≤2→∀ w,Calls Tryz.prog 79 #[zu (l:Int),zi (n:Int)] w fun e w'=>e=.returned (zi ((wslot l n:Nat):Int))∧w=w'):=fun l n hv hn w'=>slot_any l n hv.lo (by have:=hv.hi;have:=hR.sl;omega) hv.u hn w'
 have HKK:=zH (zA hK hkl);clear hR ht hm hen hid hkl hK htl hcnt B0 B1 B2 hrun hσ2 ht2 hk2 hc2 hen2 hsl2;go_enter Tryz.func302,Tryz.ntmps302;go_wp2_with fail;refine wp_region_still_tail 15 (by kernel_rfl) (by kernel_rfl) ?_;simp only[zta,ztb,ztc,ztd]
 repeat still_step
 still_call HP.out
 repeat still_step
 still_call HA.out
 refine wpStill_nil ?_;change wpList _ _ _ _ _ w.drew;generalize w.drew=wd at*;go_wp2_with (go_at_call 71;refine HL.out.mono ?_;rintro e w1 ⟨rfl,q1,q2⟩;have g1:=HG.out.trans q2;obtain⟨hf,d0,d1,d2⟩:=HB1.out w1 q1 g1;have HQ:=zH (zA hf (g1.trans (Grow.drew _ _)));clear q1 q2 g1 hf);refine wp_region_still_tail 7 (by kernel_rfl) (by kernel_rfl) ?_;simp only[zta,ztb,ztc,ztd]
 repeat still_step
 refine wpStill_nil ?_;change wpList _ _ _ _ _ w1.drew;generalize w1.drew=wd1 at*;go_wp2_with (first|(go_at_call 207;refine HQ.out.1.mono ?_;rintro e w2 ⟨rfl,A2,q1,q2,q3,q4,q5⟩;obtain⟨y0,y1,y2,y4,y7,y6,⟨kv,kc,hkv⟩,_,_,_⟩:=HB2.out A2 w2 q1 (HQ.out.2.trans q2) q3 q4 w2 (Below.refl _ _);rw[hkv] at y6;have H2:=zH (zA q1 (zA (HQ.out.2.trans q2) (zA q3 (zA q4 hkv))));clear q1 q2 q3 q4 q5 hkv)|(go_at_call 303;refine (HT.out _).mono ?_;rintro e w3 ⟨rfl,rfl⟩))
 go_loopw [6,47] (fun l i wr=>∃ k:Nat,k≤t.keys.length∧i=zi (k:Int)∧Below w2.heap.size w2 wr∧∃ av cap,l=.slice av ((t.keys.take k).flatMap (cTurn t)).length cap∧wr.ownsRow w2.heap.size 332 3 l ((t.keys.take k).flatMap (cTurn t)).length (trnCs ((t.keys.take k).flatMap (cTurn t)))) (fun _ i _=>t.keys.length - (intOf i).toNat)
 case atStart=>
  exact⟨0,Nat.zero_le _,rfl,Below.refl _ _,none,0,rfl,rfl,.inl ⟨rfl,rfl⟩⟩
 case round=>
  obtain⟨k,hk,rfl,hb,av,cap,rfl,hown⟩:=hrel;have hm0:=flat_length (cTurn t) (cTurn_length t) (t.keys.take k)
  by_cases hlt:k<t.keys.length
  · obtain⟨x0,x1,x2,x4,x7,x6,_,hget,hform,hcel⟩:=HB2.out A2 w2 H2.out.1 H2.out.2.1 H2.out.2.2.1 H2.out.2.2.2.1 wr hb
    obtain⟨g,cap',hv⟩:=hform k hlt;obtain⟨rfl,rfl⟩:kv=some ⟨g,0,none⟩∧kc=cap':=by have:=H2.out.2.2.2.2.symm.trans hv;simpa using this
    have hke:=hget k hlt g kc hv;obtain⟨x,hx,ho1,ho2⟩:=HKK.out.1 (t.keys.getD k 0) (by simp[List.getD,hlt]);obtain⟨hlk,ce0,ce1,ce2⟩:=hcel _ x hx;have hfs:=flat_snoc (cTurn t) t.keys k hlt;have hcT:cTurn t (t.keys.getD k 0)=(if x.own≠0 then ⟨wslot x.own 0,0,t.end_⟩::(if x.there then [] else [⟨wslot x.own 1,0,t.end_⟩]) else [])++(if x.old≠0 then [⟨wslot x.old 1,0,t.end_⟩] else []):=by unfold cTurn;rw[hx];rfl
    rw[hcT] at hfs;have hlen:(t.keys.take k).length≤1000000:=by have:=HKK.out.2;simp;omega
    have HC:Hid (∀ w',Below w2.heap.size w2 w'→w'.cell? ⟨A.bx s (t.keys.getD k 0),0,none⟩=some (zu (x.own:Int))∧w'.cell? ⟨A.bx s (t.keys.getD k 0),1,none⟩=some (zu (x.old:Int))∧w'.cell? ⟨A.bx s (t.keys.getD k 0),2,none⟩=some (.bool x.there)):=fun w' hb'=>by
     obtain⟨_,_,_,_,_,_,_,_,_,hcel'⟩:=HB2.out A2 w2 H2.out.1 H2.out.2.1 H2.out.2.2.1 H2.out.2.2.2.1 w' hb';exact (hcel' _ x hx).2
    have HO:=zH (zA ho1 (zA ho2 (zA hlt hfs)));have nb1:(k:Int)<(t.keys.length:Int):=by omega
    have n1:IntKind.i64.wrap ((k:Int)+1)=(k:Int)+1:=by rw[IntKind.wrap_i64];have:=HKK.out.2;omega
    clear x0 x2 y0 y1 y2 y4 y7 y6 hget hform hcel hv ho1 ho2 hcT hx;generalize t.keys.getD k 0=key at*;generalize hxs:trnCs ((t.keys.take k).flatMap (cTurn t))=xs at*;have HXS:=zH hxs;clear hxs;generalize hmm:((t.keys.take k).flatMap (cTurn t)).length=m at*;have HM:=zH hmm;clear hmm hfs;have hm1:m<3000001:=by omega
    clear hm0 hlen hk;generalize A.bx s key=bx at*
    by_cases ho:x.own≠0
    · have ho':x.own≠0:=ho
      have d1:((x.own:Int)==0)=false:=by simp;omega
      have d2:((x.own:Int) !=0)=true:=by simp;omega
      have d3:((x.own:Int)=0)=False:=by simp;omega
      clear ho'
      cases ht:x.there with
      |true=>
       by_cases hl:x.old≠0
       · have e1:((x.old:Int)==0)=false:=by simp;omega
         have e2:((x.old:Int) !=0)=true:=by simp;omega
         have e3:((x.old:Int)=0)=False:=by simp;omega
         have hfs:=HO.out.2.2.2;simp only[if_pos ho,if_pos hl,ht,if_true,if_false,Bool.false_eq_true,List.nil_append,List.append_nil,List.cons_append] at hfs;have HFS:=zH hfs;clear hfs;obtain⟨ws,W0,W1,W2⟩:∃ ws:Int→Int→Int,ws (x.own:Int) 0=((wslot x.own 0:Nat):Int)∧ws (x.own:Int) 1=((wslot x.own 1:Nat):Int)∧ws (x.old:Int) 1=((wslot x.old 1:Nat):Int):=⟨fun a b=>if b=0 then ((wslot a.toNat 0:Nat):Int) else ((wslot a.toNat 1:Nat):Int),by simp,by simp,by simp⟩
         have SL:Hid (∀ a b:Int,((a=(x.own:Int)∧b=0)∨(a=(x.own:Int)∧b=1)∨(a=(x.old:Int)∧b=1))→∀ w,Calls Tryz.prog 79 #[zu a,zi b] w fun e w'=>e=.returned (zi (ws a b))∧w=w'):=by
          rintro a b (⟨rfl,rfl⟩|⟨rfl,rfl⟩|⟨rfl,rfl⟩) w''
          · rw[W0];exact (HS.out x.own 0 (HO.out.1.resolve_left ho) (by omega) w'')
          · rw[W1];exact (HS.out x.own 1 (HO.out.1.resolve_left ho) (by omega) w'')
          · rw[W2];exact (HS.out x.old 1 (HO.out.2.1.resolve_left hl) (by omega) w'')
         have HW:=zH (zA W0 (zA W1 W2));clear W0 W1 W2;clear ho hl;rw[ht] at ce2 HC;clear ht;go_wp2_with (first|(go_at_call 79;refine (SL.out _ _ (by first|exact .inl ⟨rfl,rfl⟩|exact .inr (.inl ⟨rfl,rfl⟩)|exact .inr (.inr ⟨rfl,rfl⟩)) _).mono ?_;rintro e w' ⟨rfl,rfl⟩)|(refine wp_turn _ rfl _ _ rfl w2 (by assumption) _ _ _ _ rfl (by assumption) (by omega) _ _ _ rfl ?_;intro avl capl wl ql pl;obtain⟨ce0,ce1,ce2⟩:=HC.out wl pl))
         go_roundw
         case rel=>
          simp only[HW.out.1,HW.out.2.1,HW.out.2.2] at ql;refine⟨k+1,by have:=HO.out.2.2.1;omega,rfl,pl,avl,capl,?_,?_⟩
          · first|(rw[HFS.out,List.length_append,HM.out];done)|(rw[HFS.out,List.length_append,HM.out];rfl)
          · rw[HFS.out,List.length_append,HM.out,trnCs_append,HXS.out];simp only[List.append_assoc,List.cons_append,List.nil_append] at ql;exact ql
         case measure=>have:=HO.out.2.2.1;simp[intOf];omega
       · have e1:((x.old:Int)==0)=true:=by simp;omega
         have e2:((x.old:Int) !=0)=false:=by simp;omega
         have e3:((x.old:Int)=0)=True:=by simp;omega
         have hfs:=HO.out.2.2.2;simp only[if_pos ho,if_neg hl,ht,if_true,if_false,Bool.false_eq_true,List.nil_append,List.append_nil,List.cons_append] at hfs;have HFS:=zH hfs;clear hfs;obtain⟨ws,W0,W1,W2⟩:∃ ws:Int→Int→Int,ws (x.own:Int) 0=((wslot x.own 0:Nat):Int)∧ws (x.own:Int) 1=((wslot x.own 1:Nat):Int)∧ws (x.old:Int) 1=((wslot x.old 1:Nat):Int):=⟨fun a b=>if b=0 then ((wslot a.toNat 0:Nat):Int) else ((wslot a.toNat 1:Nat):Int),by simp,by simp,by simp⟩
         have SL:Hid (∀ a b:Int,((a=(x.own:Int)∧b=0)∨(a=(x.own:Int)∧b=1)∨False)→∀ w,Calls Tryz.prog 79 #[zu a,zi b] w fun e w'=>e=.returned (zi (ws a b))∧w=w'):=by
          rintro a b (⟨rfl,rfl⟩|⟨rfl,rfl⟩|h) w''
          · rw[W0];exact (HS.out x.own 0 (HO.out.1.resolve_left ho) (by omega) w'')
          · rw[W1];exact (HS.out x.own 1 (HO.out.1.resolve_left ho) (by omega) w'')
          · exact h.elim
         have HW:=zH (zA W0 (zA W1 W2));clear W0 W1 W2;clear ho hl;rw[ht] at ce2 HC;clear ht;go_wp2_with (first|(go_at_call 79;refine (SL.out _ _ (by first|exact .inl ⟨rfl,rfl⟩|exact .inr (.inl ⟨rfl,rfl⟩)|exact .inr (.inr ⟨rfl,rfl⟩)) _).mono ?_;rintro e w' ⟨rfl,rfl⟩)|(refine wp_turn _ rfl _ _ rfl w2 (by assumption) _ _ _ _ rfl (by assumption) (by omega) _ _ _ rfl ?_;intro avl capl wl ql pl;obtain⟨ce0,ce1,ce2⟩:=HC.out wl pl))
         go_roundw
         case rel=>
          simp only[HW.out.1,HW.out.2.1,HW.out.2.2] at ql;refine⟨k+1,by have:=HO.out.2.2.1;omega,rfl,pl,avl,capl,?_,?_⟩
          · first|(rw[HFS.out,List.length_append,HM.out];done)|(rw[HFS.out,List.length_append,HM.out];rfl)
          · rw[HFS.out,List.length_append,HM.out,trnCs_append,HXS.out];exact ql
         case measure=>have:=HO.out.2.2.1;simp[intOf];omega
          |false=>
       by_cases hl:x.old≠0
       · have e1:((x.old:Int)==0)=false:=by simp;omega
         have e2:((x.old:Int) !=0)=true:=by simp;omega
         have e3:((x.old:Int)=0)=False:=by simp;omega
         have hfs:=HO.out.2.2.2;simp only[if_pos ho,if_pos hl,ht,if_true,if_false,Bool.false_eq_true,List.nil_append,List.append_nil,List.cons_append] at hfs;have HFS:=zH hfs;clear hfs;obtain⟨ws,W0,W1,W2⟩:∃ ws:Int→Int→Int,ws (x.own:Int) 0=((wslot x.own 0:Nat):Int)∧ws (x.own:Int) 1=((wslot x.own 1:Nat):Int)∧ws (x.old:Int) 1=((wslot x.old 1:Nat):Int):=⟨fun a b=>if b=0 then ((wslot a.toNat 0:Nat):Int) else ((wslot a.toNat 1:Nat):Int),by simp,by simp,by simp⟩
         have SL:Hid (∀ a b:Int,((a=(x.own:Int)∧b=0)∨(a=(x.own:Int)∧b=1)∨(a=(x.old:Int)∧b=1))→∀ w,Calls Tryz.prog 79 #[zu a,zi b] w fun e w'=>e=.returned (zi (ws a b))∧w=w'):=by
          rintro a b (⟨rfl,rfl⟩|⟨rfl,rfl⟩|⟨rfl,rfl⟩) w''
          · rw[W0];exact (HS.out x.own 0 (HO.out.1.resolve_left ho) (by omega) w'')
          · rw[W1];exact (HS.out x.own 1 (HO.out.1.resolve_left ho) (by omega) w'')
          · rw[W2];exact (HS.out x.old 1 (HO.out.2.1.resolve_left hl) (by omega) w'')
         have HW:=zH (zA W0 (zA W1 W2));clear W0 W1 W2;clear ho hl;rw[ht] at ce2 HC;clear ht;go_wp2_with (first|(go_at_call 79;refine (SL.out _ _ (by first|exact .inl ⟨rfl,rfl⟩|exact .inr (.inl ⟨rfl,rfl⟩)|exact .inr (.inr ⟨rfl,rfl⟩)) _).mono ?_;rintro e w' ⟨rfl,rfl⟩)|(refine wp_turn _ rfl _ _ rfl w2 (by assumption) _ _ _ _ rfl (by assumption) (by omega) _ _ _ rfl ?_;intro avl capl wl ql pl;obtain⟨ce0,ce1,ce2⟩:=HC.out wl pl))
         go_roundw
         case rel=>
          simp only[HW.out.1,HW.out.2.1,HW.out.2.2] at ql;refine⟨k+1,by have:=HO.out.2.2.1;omega,rfl,pl,avl,capl,?_,?_⟩
          · first|(rw[HFS.out,List.length_append,HM.out];done)|(rw[HFS.out,List.length_append,HM.out];rfl)
          · rw[HFS.out,List.length_append,HM.out,trnCs_append,HXS.out];simp only[List.append_assoc,List.cons_append,List.nil_append] at ql;exact ql
         case measure=>have:=HO.out.2.2.1;simp[intOf];omega
       · have e1:((x.old:Int)==0)=true:=by simp;omega
         have e2:((x.old:Int) !=0)=false:=by simp;omega
         have e3:((x.old:Int)=0)=True:=by simp;omega
         have hfs:=HO.out.2.2.2;simp only[if_pos ho,if_neg hl,ht,if_true,if_false,Bool.false_eq_true,List.nil_append,List.append_nil,List.cons_append] at hfs;have HFS:=zH hfs;clear hfs;obtain⟨ws,W0,W1,W2⟩:∃ ws:Int→Int→Int,ws (x.own:Int) 0=((wslot x.own 0:Nat):Int)∧ws (x.own:Int) 1=((wslot x.own 1:Nat):Int)∧ws (x.old:Int) 1=((wslot x.old 1:Nat):Int):=⟨fun a b=>if b=0 then ((wslot a.toNat 0:Nat):Int) else ((wslot a.toNat 1:Nat):Int),by simp,by simp,by simp⟩
         have SL:Hid (∀ a b:Int,((a=(x.own:Int)∧b=0)∨(a=(x.own:Int)∧b=1)∨False)→∀ w,Calls Tryz.prog 79 #[zu a,zi b] w fun e w'=>e=.returned (zi (ws a b))∧w=w'):=by
          rintro a b (⟨rfl,rfl⟩|⟨rfl,rfl⟩|h) w''
          · rw[W0];exact (HS.out x.own 0 (HO.out.1.resolve_left ho) (by omega) w'')
          · rw[W1];exact (HS.out x.own 1 (HO.out.1.resolve_left ho) (by omega) w'')
          · exact h.elim
         have HW:=zH (zA W0 (zA W1 W2));clear W0 W1 W2;clear ho hl;rw[ht] at ce2 HC;clear ht;go_wp2_with (first|(go_at_call 79;refine (SL.out _ _ (by first|exact .inl ⟨rfl,rfl⟩|exact .inr (.inl ⟨rfl,rfl⟩)|exact .inr (.inr ⟨rfl,rfl⟩)) _).mono ?_;rintro e w' ⟨rfl,rfl⟩)|(refine wp_turn _ rfl _ _ rfl w2 (by assumption) _ _ _ _ rfl (by assumption) (by omega) _ _ _ rfl ?_;intro avl capl wl ql pl;obtain⟨ce0,ce1,ce2⟩:=HC.out wl pl))
         go_roundw
         case rel=>
          simp only[HW.out.1,HW.out.2.1,HW.out.2.2] at ql;refine⟨k+1,by have:=HO.out.2.2.1;omega,rfl,pl,avl,capl,?_,?_⟩
          · first|(rw[HFS.out,List.length_append,HM.out];done)|(rw[HFS.out,List.length_append,HM.out];rfl)
          · rw[HFS.out,List.length_append,HM.out,trnCs_append,HXS.out];simp only[List.append_assoc,List.cons_append,List.nil_append] at ql;exact ql
         case measure=>have:=HO.out.2.2.1;simp[intOf];omega
    · have d1:((x.own:Int)==0)=true:=by simp;omega
      have d2:((x.own:Int) !=0)=false:=by simp;omega
      have d3:((x.own:Int)=0)=True:=by simp;omega
      by_cases hl:x.old≠0
      · have e1:((x.old:Int)==0)=false:=by simp;omega
        have e2:((x.old:Int) !=0)=true:=by simp;omega
        have e3:((x.old:Int)=0)=False:=by simp;omega
        have hfs:=HO.out.2.2.2;simp only[if_neg ho,if_pos hl,List.nil_append,List.append_nil,List.cons_append] at hfs;have HFS:=zH hfs;clear hfs;obtain⟨ws,W0,W1,W2⟩:∃ ws:Int→Int→Int,ws (x.own:Int) 0=((wslot x.own 0:Nat):Int)∧ws (x.own:Int) 1=((wslot x.own 1:Nat):Int)∧ws (x.old:Int) 1=((wslot x.old 1:Nat):Int):=⟨fun a b=>if b=0 then ((wslot a.toNat 0:Nat):Int) else ((wslot a.toNat 1:Nat):Int),by simp,by simp,by simp⟩
        have SL:Hid (∀ a b:Int,(False∨False∨(a=(x.old:Int)∧b=1))→∀ w,Calls Tryz.prog 79 #[zu a,zi b] w fun e w'=>e=.returned (zi (ws a b))∧w=w'):=by
         rintro a b (h|h|⟨rfl,rfl⟩) w''
         · exact h.elim
         · exact h.elim
         · rw[W2];exact (HS.out x.old 1 (HO.out.2.1.resolve_left hl) (by omega) w'')
        have HW:=zH (zA W0 (zA W1 W2));clear W0 W1 W2;clear ho hl;go_wp2_with (first|(go_at_call 79;refine (SL.out _ _ (by first|exact .inl ⟨rfl,rfl⟩|exact .inr (.inl ⟨rfl,rfl⟩)|exact .inr (.inr ⟨rfl,rfl⟩)) _).mono ?_;rintro e w' ⟨rfl,rfl⟩)|(refine wp_turn _ rfl _ _ rfl w2 (by assumption) _ _ _ _ rfl (by assumption) (by omega) _ _ _ rfl ?_;intro avl capl wl ql pl;obtain⟨ce0,ce1,ce2⟩:=HC.out wl pl))
        go_roundw
        case rel=>
         simp only[HW.out.1,HW.out.2.1,HW.out.2.2] at ql;refine⟨k+1,by have:=HO.out.2.2.1;omega,rfl,pl,avl,capl,?_,?_⟩
         · first|(rw[HFS.out,List.length_append,HM.out];done)|(rw[HFS.out,List.length_append,HM.out];rfl)
         · rw[HFS.out,List.length_append,HM.out,trnCs_append,HXS.out];exact ql
        case measure=>have:=HO.out.2.2.1;simp[intOf];omega
      · have e1:((x.old:Int)==0)=true:=by simp;omega
        have e2:((x.old:Int) !=0)=false:=by simp;omega
        have e3:((x.old:Int)=0)=True:=by simp;omega
        have hfs:=HO.out.2.2.2;simp only[if_neg ho,if_neg hl,List.nil_append,List.append_nil,List.cons_append] at hfs;have HFS:=zH hfs;clear hfs;clear ho hl;go_wp2_with fail
        go_roundw
        case rel=>
         refine⟨k+1,by have:=HO.out.2.2.1;omega,rfl,hb,av,cap,?_,?_⟩
         · first|(rw[HFS.out,HM.out];done)|(rw[HFS.out,HM.out];rfl)
         · rw[HFS.out,HM.out,HXS.out];exact hown
        case measure=>have:=HO.out.2.2.1;simp[intOf];omega
  · obtain rfl:k=t.keys.length:=by omega
    rw[List.take_length] at hown ⊢;obtain⟨x0,x1,x2,x4,x7,x6,_⟩:=HB2.out A2 w2 H2.out.1 H2.out.2.1 H2.out.2.2.1 H2.out.2.2.2.1 wr hb;have HE:=zH (zA (HTU.out A2 w2 H2.out.1 H2.out.2.2.1 wr av _ cap hb hown) (Grow.below (L:=A2.L) hb));clear hown hb hlt hk hm0;generalize (t.keys.flatMap (cTurn t)).length=m at*;go_wp2_with (go_at_call 210;refine HE.out.1.mono ?_;rintro e w4 ⟨A3,v,rfl,p1,p2,p3,p4⟩);go_ret;exact⟨A3,v,rfl,p1,(H2.out.2.1.trans HE.out.2).trans p2,H2.out.2.2.1.trans p3,p4⟩
def aTurn (t:Txn) (key:Nat):List Trn:=if ((t.cell key).getD default).old≠0 then [⟨wslot ((t.cell key).getD default).old 1,mine t,ever⟩] else []
theorem abortTurns_eq (σ:St) (t:Txn):abortTurns σ t=t.keys.flatMap (aTurn t):=rfl
theorem aTurn_length (t:Txn) (key:Nat):(aTurn t key).length≤3:=by
 unfold aTurn
 split
 all_goals simp
theorem wp_turn2 {o:Oper} {a:Act} {K:Act→World→Prop} {Q:Exit→Act→World→Prop} (w W:World) (s x:Operand)
 (ho:o.op=.call {callee:=.builtin .append,args:=#[s,x],argTypes:=#[330,330]})
 (w0:World) (hb:Below w0.heap.size w0 w) (av:Option Addr) (m cap:Nat) (xs:List Value) (hs:a.eval s=.slice av m cap) (hown:w.ownsRow w0.heap.size 332 3 (.slice av m cap) m xs) (hm:m<4000000)
 (t0 t1 t2:Int) (hW:W=(w.alloc (.cells #[zi t0,zu t1,zu t2] 332)).drew) (hx:a.eval x=.slice (some ⟨w.heap.size,0,none⟩) 1 1)
 (h:∀ av' cap' w',w'.ownsRow w0.heap.size 332 3 (.slice av' (m+1) cap') (m+1) (xs++[zi t0,zu t1,zu t2])→Below w0.heap.size w0 w'→K (a.put o.dst (.slice av' (m+1) cap')) w'):
 o.wp Tryz.prog a W K Q:=by
 subst hW;obtain⟨ii,hii,hz0,hz1,hz2⟩:=info_parts infoT;have hw:=hb.size;have hown':(w.alloc (.cells #[zi t0,zu t1,zu t2] 332)).drew.ownsRow w0.heap.size 332 3 (.slice av m cap) m xs:=own_same hown fun g hg=>Below.heap_alloc _ _ _ (hown.lt g hg).2
 refine Ow.wp_append_to _ s x 330 ho w0.heap.size 332 ii _ 3 24 Tryz.underlying330 hii hz0 hz1 hz2 rfl (by decide) (.slice av m cap) m xs hs hown' ⟨w.heap.size,0,none⟩ 1 1 (by omega) [zi t0,zu t1,zu t2] hx rfl (fun j u hu=>Ow.new_row w [zi t0,zu t1,zu t2] _ _ rfl j u hu) (by intro u hu;simp at hu;rcases hu with rfl|rfl|rfl<;>rfl) (by unfold maxLen;omega) (by omega) (by simp[World.drew];omega) ?_;intro v' w' q1 q2 q3;obtain⟨av',cap',rfl,_⟩:=Ow.own_form q1;exact h av' cap' w' q1 (((hb.alloc hw _).drew).grown q2 (by simp[World.drew];omega) (fun g hg=>(hown.lt g hg).1))
set_option maxHeartbeats 16000000 in
theorem k_abort (hR:Rep A σ w) (s:Nat) (t:Txn) (ht:σ.txns.getD s none=some t) (hm:A.mt s=0) (er reason:Nat) (hen:t.end_≤1099511627776) (hi1:1≤t.id) (hid:t.id≤2000) (hkl:t.keys.length<1000000) (hK:KeysOk σ t) (htl:σ.tale.length<1000000) (hcnt:σ.count<4000000000000000000) (b0 b1 b2 b3 b4:Nat)
 (B0:Box A.L w b0 (.pointer (some ⟨A.be,0,none⟩))) (B1:Box A.L w b1 (.pointer (some ⟨A.bt s,0,none⟩))) (B2:Box A.L w b2 (zi (reason:Int))) (B3:Box A.L w b3 (.pointer (some ⟨A.bc s,0,none⟩))) (B4:Box A.L w b4 (zi (er:Int))):
 Calls Tryz.prog 206 #[.pointer (some ⟨b0,0,none⟩),.pointer (some ⟨b1,0,none⟩),.pointer (some ⟨b2,0,none⟩),.pointer (some ⟨b3,0,none⟩),.pointer (some ⟨b4,0,none⟩)] w (Ran A w s (σ.run s (.abort er reason))):=by
 have c0:=B0.cell;have c1:=B1.cell;have e2:=hR.z2;have t4:w.cell? ⟨A.bt s,4,none⟩=some (zu (t.end_:Int)):=hR.txn ht 4 rfl;have t0:w.cell? ⟨A.bt s,0,none⟩=some (zi (t.id:Int)):=hR.txn ht 0 rfl;have HP:=zH (place_still hR.drew t.id (by omega));have HA:=zH (pack_still 4 (t.end_:Int) 4 t.end_ rfl rfl (by omega) (by omega) w.drew);have HL:=zH (store_any hR.drew (σ.place t.id) (pack 4 t.end_) (by rw[hR.nw];unfold St.place;omega) hcnt);have HG:=zG A.L w;obtain⟨σ2,hσ2⟩:∃ σ2,σ2=(σ.put (σ.place t.id) (pack 4 t.end_)).tellEnd s {kind:=6,t:=t.id,res:={reason:=reason}}:=⟨_,rfl⟩
 have hrun:σ.run s (.abort er reason)=(σ2,some (.turns (t.keys.flatMap (aTurn t)) {e:=er,over:=4,reason:=reason})):=by
  rw[hσ2,←abortTurns_eq (σ.put (σ.place t.id) (pack 4 t.end_)) t];simp only[St.run,txn_get ht];rfl
 rw[hrun];obtain⟨t2,ht2,hk2,hc2,hen2⟩:∃ t2,σ2.txns.getD s none=some t2∧t2.keys=t.keys∧t2.cells=t.cells∧t2.id=t.id:=by
  have ht1:(σ.put (σ.place t.id) (pack 4 t.end_)).txns.getD s none=some t:=ht;rw[hσ2];unfold St.tellEnd;rw[txn_get ht1]
  by_cases ho:t.over=true
  · rw[if_pos ho];exact⟨t,ht1,rfl,rfl,rfl⟩
  · rw[if_neg ho]
    refine⟨{t with over:=true},?_,rfl,rfl,rfl⟩;show ((σ.put (σ.place t.id) (pack 4 t.end_)).setT s {t with over:=true}).txns.getD s none=_;rw[getT_set (lt_of_txn ht1),if_pos rfl]
 have HB1:Hid (∀ w1,Rep A (σ.put (σ.place t.id) (pack 4 t.end_)) w1→Grow A.L w A.L w1→Calls Tryz.prog 207 #[.pointer (some ⟨A.be,0,none⟩),.pointer (some ⟨A.bt s,0,none⟩),.agg #[zi 6,zi (t.id:Int),zu 0,zi 0,zi 0,zi 0,zi 0,zi 0,zi 0,.slice none 0 0,zi 0,zi (reason:Int)]] w1.drew (Told A w1.drew s σ2)∧w1.cell? ⟨b0,0,none⟩=some (.pointer (some ⟨A.be,0,none⟩))∧w1.cell? ⟨b1,0,none⟩=some (.pointer (some ⟨A.bt s,0,none⟩))∧w1.cell? ⟨b2,0,none⟩=some (zi (reason:Int))∧w1.cell? ⟨A.bt s,0,none⟩=some (zi (t.id:Int))):=by
  intro w1 q g;rw[hσ2];exact⟨tell_any q.drew s t ht hm _ 6 t.id reason rfl rfl htl,(B0.grow g).cell,(B1.grow g).cell,(B2.grow g).cell,q.txn ht 0 rfl⟩
 have HB2 : Hid (∀ A2 w2, Rep A2 σ2 w2 → Grow A.L w A2.L w2 → Stay A A2 s → A2.bx = A.bx → ∀ w3, Below w2.heap.size w2 w3 → w3.cell? ⟨b0, 0, none⟩ = some (.pointer (some ⟨A.be, 0, none⟩)) ∧ w3.cell? ⟨b1, 0, none⟩ = some (.pointer (some ⟨A.bt s, 0, none⟩)) ∧ w3.cell? ⟨b2, 0, none⟩ = some (zi (reason : Int)) ∧ w3.cell? ⟨b3, 0, none⟩ = some (.pointer (some ⟨A.bc s, 0, none⟩)) ∧ w3.cell? ⟨b4, 0, none⟩ = some (zi (er : Int)) ∧ w3.cell? ⟨A.bt s, 7, none⟩ = some (.map (some (A.bm s))) ∧ w3.cell? ⟨A.bt s, 6, none⟩ = some (A2.vkeys s) ∧
     (∃ av cap,A2.vkeys s=.slice av t.keys.length cap)∧(∀ k,k<t.keys.length→∀ g cap,A2.vkeys s=.slice (some ⟨g,0,none⟩) t.keys.length cap→w3.cell? ⟨g,k,none⟩=some (zi (t.keys.getD k 0:Int)))∧(∀ k,k<t.keys.length→∃ g cap,A2.vkeys s=.slice (some ⟨g,0,none⟩) t.keys.length cap)∧
     (∀ key x,t.cell key=some x→(Instr.lookup 143 (.map (some (A.bm s))) (zi (key:Int)) false).run Tryz.prog w3=.ok (.pointer (some ⟨A.bx s key,0,none⟩)) w3∧w3.cell? ⟨A.bx s key,1,none⟩=some (zu (x.old:Int)))∧
     Calls Tryz.prog 208 #[.pointer (some ⟨A.bt s,0,none⟩)] w3.drew (fun e w'=>e=.returned (zu ((mine t:Nat):Int))∧w'=w3.drew)):=by
  intro A2 w2 q g st hbx w3 hb;have r3:=q.below hb;have gg:=g.trans (Grow.below (L:=A2.L) hb);have a7:=r3.txn ht2 7 (v:=.map (some (A2.bm s))) rfl;have a6:=r3.txn ht2 6 (v:=A2.vkeys s) rfl;rw[st.bt] at a7 a6;rw[st.bm] at a7;have hown:=r3.mem.all (.keys s);rw[mem_keys ht2,hk2] at hown;obtain⟨av,cap,hv,_⟩:=Ow.own_form hown.1;have hget:∀ k,k<t.keys.length→(t.keys.map i64)[k]? =some (i64 (t.keys.getD k 0)):=fun k hk=>by simp[List.getD,hk]
  have hmi:=flip (mine_any r3.drew s t2 ht2 (by omega) (by omega));rw[st.bt,show mine t2=mine t by unfold mine;rw[hen2]] at hmi;refine⟨(B0.grow gg).cell,(B1.grow gg).cell,(B2.grow gg).cell,(B3.grow gg).cell,(B4.grow gg).cell,a7,a6,⟨av,cap,hv⟩,fun k hk g' cap' hv'=>?_,fun k hk=>?_,fun key x hx=>?_,hmi⟩
  · obtain⟨g1,cap1,hv1,hc1⟩:=own_at hown.1 (hget k hk)
    rw[hv'] at hv1;obtain⟨rfl,_⟩:g'=g1∧cap'=cap1:=by simpa using hv1
    exact hc1
  · obtain⟨g1,cap1,hv1,hc1⟩:=own_at hown.1 (hget k hk)
    exact⟨g1,cap1,hv1⟩
  · have hx2:t2.cell key=some x:=by unfold Txn.cell at hx ⊢;rw[hc2];exact hx
    have hl:=lookup_run r3 ht2 key;have hpx:A2.px s t2 key=.pointer (some ⟨A2.bx s key,0,none⟩):=by unfold Book.px;rw[hx2];rfl
    rw[hpx,hbx,st.bm] at hl;obtain⟨x0,x1,x2⟩:=r3.cel ht2 hx2;rw[hbx] at x1;exact⟨hl,x1⟩
 have HF:Hid (∀ w',Calls Tryz.prog 209 #[] w' fun e w1=>e=.returned (zu ((ever:Nat):Int))∧w1=w'):=fun w'=>flip (Word.forever_any w')
 have HTU:Hid (∀ A2 w2,Rep A2 σ2 w2→Stay A A2 s→∀ w3 av m cap,Below w2.heap.size w2 w3→w3.ownsRow w2.heap.size 332 3 (.slice av m cap) m (trnCs (t.keys.flatMap (aTurn t)))→Calls Tryz.prog 210 #[.pointer (some ⟨A.be,0,none⟩),.pointer (some ⟨A.bt s,0,none⟩),.pointer (some ⟨A.bc s,0,none⟩),.slice av m cap,.agg #[zi (er:Int),zi 0,.slice none 0 0,zi 4,zi (reason:Int)]] w3 (Tells A2 w3 s (σ2,.turns (t.keys.flatMap (aTurn t)) {e:=er,over:=4,reason:=reason}))):=by
  intro A2 w2 q st w3 av m cap hb ho;have h:=turns_at (q.below hb) s (t.keys.flatMap (aTurn t)) (.slice av m cap) (frow_of_own ho q.mem.fresh) {e:=er,over:=4,reason:=reason} er 0 4 reason (.slice none 0 0) rfl (.inr ⟨rfl,rfl⟩);rw[st.be,st.bt,st.bc] at h;exact h
 have HS:Hid (∀ (l:Nat),VL σ l→∀ w,Calls Tryz.prog 79 #[zu (l:Int),zi 1] w fun e w'=>e=.returned (zi ((wslot l 1:Nat):Int))∧w'=w):=fun l hv w'=>flip (slot_at l 1 1 rfl hv.lo (by have:=hv.hi;have:=hR.sl;omega) hv.u (by omega) w')
 have HKK:=zH (zA hK hkl);clear hR ht hm hen hid hi1 hkl hK htl hcnt B0 B1 B2 B3 B4 hrun hσ2 ht2 hk2 hc2 hen2;go_enter Tryz.func206,Tryz.ntmps206;go_wp2_with fail;refine wp_region_still_tail 15 (by kernel_rfl) (by kernel_rfl) ?_;simp only[zta,ztb,ztc,ztd]
 repeat still_step
 still_call HP.out
 repeat still_step
 still_call HA.out
 refine wpStill_nil ?_;change wpList _ _ _ _ _ w.drew;generalize w.drew=wd at*;go_wp2_with (go_at_call 71;refine HL.out.mono ?_;rintro e w1 ⟨rfl,q1,q2⟩;have g1:=HG.out.trans q2;obtain⟨hf,d0,d1,d2,d3⟩:=HB1.out w1 q1 g1;have HQ:=zH (zA hf (g1.trans (Grow.drew _ _)));clear q1 q2 g1 hf);refine wp_region_still_tail 9 (by kernel_rfl) (by kernel_rfl) ?_;simp only[zta,ztb,ztc,ztd]
 repeat still_step
 refine wpStill_nil ?_;change wpList _ _ _ _ _ w1.drew;generalize w1.drew=wd1 at*;go_wp2_with (first|(go_at_call 207;refine HQ.out.1.mono ?_;rintro e w2 ⟨rfl,A2,q1,q2,q3,q4,q5⟩;obtain⟨y0,y1,y2,y3,y4,y7,y6,⟨kv,kc,hkv⟩,_,_,_,_⟩:=HB2.out A2 w2 q1 (HQ.out.2.trans q2) q3 q4 w2 (Below.refl _ _);rw[hkv] at y6;have H2:=zH (zA q1 (zA (HQ.out.2.trans q2) (zA q3 (zA q4 hkv))));clear q1 q2 q3 q4 q5 hkv))
 go_loopw [6,41] (fun l i wr=>∃ k:Nat,k≤t.keys.length∧i=zi (k:Int)∧Below w2.heap.size w2 wr∧∃ av cap,l=.slice av ((t.keys.take k).flatMap (aTurn t)).length cap∧wr.ownsRow w2.heap.size 332 3 l ((t.keys.take k).flatMap (aTurn t)).length (trnCs ((t.keys.take k).flatMap (aTurn t)))) (fun _ i _=>t.keys.length - (intOf i).toNat)
 case atStart=>
  exact⟨0,Nat.zero_le _,rfl,Below.refl _ _,none,0,rfl,rfl,.inl ⟨rfl,rfl⟩⟩
 case round=>
  obtain⟨k,hk,rfl,hb,av,cap,rfl,hown⟩:=hrel;have hm0:=flat_length (aTurn t) (aTurn_length t) (t.keys.take k)
  by_cases hlt:k<t.keys.length
  · obtain⟨x0,x1,x2,x3,x4,x7,x6,_,hget,hform,hcel,hmi⟩:=HB2.out A2 w2 H2.out.1 H2.out.2.1 H2.out.2.2.1 H2.out.2.2.2.1 wr hb
    obtain⟨g,cap',hv⟩:=hform k hlt;obtain⟨rfl,rfl⟩:kv=some ⟨g,0,none⟩∧kc=cap':=by have:=H2.out.2.2.2.2.symm.trans hv;simpa using this
    have hke:=hget k hlt g kc hv;obtain⟨x,hx,ho1,ho2⟩:=HKK.out.1 (t.keys.getD k 0) (by simp[List.getD,hlt]);obtain⟨hlk,ce1⟩:=hcel _ x hx;have hfs:=flat_snoc (aTurn t) t.keys k hlt;have hcT:aTurn t (t.keys.getD k 0)=(if x.old≠0 then [⟨wslot x.old 1,mine t,ever⟩] else []):=by unfold aTurn;rw[hx];rfl
    rw[hcT] at hfs;have hlen:(t.keys.take k).length≤1000000:=by have:=HKK.out.2;simp;omega
    have HM:=zH hmi;have HO:=zH (zA ho2 (zA hlt hfs));have nb1:(k:Int)<(t.keys.length:Int):=by omega
    have n1:IntKind.i64.wrap ((k:Int)+1)=(k:Int)+1:=by rw[IntKind.wrap_i64];have:=HKK.out.2;omega
    clear x0 x2 x3 x4 y0 y1 y2 y3 y4 y7 y6 hget hform hcel hv ho1 ho2 hcT hx hmi;generalize t.keys.getD k 0=key at*;generalize hxs:trnCs ((t.keys.take k).flatMap (aTurn t))=xs at*;have HXS:=zH hxs;clear hxs;generalize hmm:((t.keys.take k).flatMap (aTurn t)).length=m at*;have HMM:=zH hmm;clear hmm hfs;have hm1:m<3000001:=by omega
    clear hm0 hlen hk;generalize A.bx s key=bx at*;generalize mine t=mt at*
    by_cases hl:x.old≠0
    · have hl':x.old≠0:=hl
      obtain⟨e1,e2,e3,e4,e5⟩:=zeF (x:=x.old) (c:=0) (ci:=0) (by omega);have HS1:=zH (fun w'=>HS.out x.old (HO.out.1.resolve_left hl) w');have hfs:=HO.out.2.2;simp only[if_pos hl] at hfs;have HFS:=zH hfs;have HOW:=zH (zA hown hb);clear hfs hl hl' hown hb;generalize wslot x.old 1=ws1 at*;go_wp2_with fail
      go_region_law (first|(refine wp_turn2 wr _ _ _ rfl w2 HOW.out.2 av m cap xs rfl HOW.out.1 (by omega) (ws1:Int) (mt:Int) ((ever:Nat):Int) rfl rfl ?_;intro avl capl wl ql pl;have HQL:=zH (zA ql pl);clear ql pl)|(go_simp;go_at_call 79;refine (HS1.out _).mono ?_;rintro e w' ⟨rfl,rfl⟩)|(go_simp;go_at_call 208;refine HM.out.mono ?_;rintro e w' ⟨rfl,rfl⟩)|(go_simp;go_at_call 209;refine (HF.out _).mono ?_;rintro e w' ⟨rfl,rfl⟩))
      all_goals
       go_wp2_with fail
       go_roundw
       case rel=>
        refine⟨k+1,by have:=HO.out.2.1;omega,rfl,HQL.out.2,avl,capl,?_,?_⟩
        · rw[HFS.out,List.length_append,HMM.out];rfl
        · rw[HFS.out,List.length_append,HMM.out,trnCs_append,HXS.out];exact HQL.out.1
       case measure=>have:=HO.out.2.1;simp[intOf];omega
    · have ho0:x.old=0:=by omega
      obtain⟨e1,e2,e3,e4,e5⟩:=zeT (x:=x.old) (c:=0) (ci:=0) (by omega);have hfs:=HO.out.2.2;simp only[if_neg hl,List.append_nil] at hfs;have HFS:=zH hfs;clear hfs hl ho0;go_wp2_with fail
      go_roundw
      case rel=>exact⟨k+1,by have:=HO.out.2.1;omega,rfl,hb,av,cap,by rw[HFS.out,HMM.out],by rw[HFS.out,HMM.out,HXS.out];exact hown⟩
      case measure=>have:=HO.out.2.1;simp[intOf];omega
  · obtain rfl:k=t.keys.length:=by omega
    rw[List.take_length] at hown ⊢;obtain⟨x0,x1,x2,x3,x4,x7,x6,_⟩:=HB2.out A2 w2 H2.out.1 H2.out.2.1 H2.out.2.2.1 H2.out.2.2.2.1 wr hb;have HE:=zH (zA (HTU.out A2 w2 H2.out.1 H2.out.2.2.1 wr av _ cap hb hown) (Grow.below (L:=A2.L) hb));clear hown hb hlt hk hm0;generalize (t.keys.flatMap (aTurn t)).length=m at*;go_wp2_with (go_at_call 210;refine HE.out.1.mono ?_;rintro e w4 ⟨A3,v,rfl,p1,p2,p3,p4⟩);go_ret;exact⟨A3,v,rfl,p1,(H2.out.2.1.trans HE.out.2).trans p2,H2.out.2.2.1.trans p3,p4⟩
def txnOf (id level bg:Nat):Txn:={id:=id,level:=level,begin_:=bg,end_:=0,ops:=0,keys:=[],cells:=[],reads:=[],bonds:=[],over:=false}
theorem help_count (σ:St) (x:Nat):(σ.help x).count=σ.count+1:=by unfold St.help St.cas;split<;>rfl
theorem help_place (σ:St) (x id:Nat):(σ.help x).place id=σ.place id:=by unfold St.help St.cas;split<;>rfl
theorem help_tale (σ:St) (x:Nat):(σ.help x).tale=σ.tale:=by unfold St.help St.cas;split<;>rfl
theorem cas_count (σ:St) (i a b:Nat):(σ.cas i a b).count=σ.count+1:=by unfold St.cas;split<;>rfl
theorem cas_place (σ:St) (i a b id:Nat):(σ.cas i a b).place id=σ.place id:=by unfold St.cas;split<;>rfl
theorem cas_txns (σ:St) (i a b:Nat):(σ.cas i a b).txns=σ.txns:=by unfold St.cas;split<;>rfl
theorem cas_calls (σ:St) (i a b:Nat):(σ.cas i a b).calls=σ.calls:=by unfold St.cas;split<;>rfl
theorem cas_tale (σ:St) (i a b:Nat):(σ.cas i a b).tale=σ.tale:=by unfold St.cas;split<;>rfl
def Begun (A:Book) (w:World) (σ':St) (id:Nat):Ending→World→Prop:=fun e w'=>∃ A',e=.returned (.tuple #[zi (id:Int),zi 0])∧Live A' σ' w'∧Grow A.L w A'.L w'∧A'.be=A.be
theorem begin_new (hL:Live A σ w) (s:Nat) (hs:s<8) (level:Nat) (hl1:1≤level) (hl2:level≤3) (hn:σ.txns.getD s none=none) (hcn:σ.calls.getD s none=none) (hmd:σ.made<2000) (hx:σ.word 0<18446744073709551616) (htm:timeOf (σ.word 0)<281474976710000) (hlim:timeOf (σ.word 0)<σ.limit) (hlo:lastOf (σ.word 0)=0) (hcnt:σ.count<3000000000000000000) (htl:σ.tale.length<1000000):
 Calls Tryz.prog 36 #[.pointer (some ⟨A.be,0,none⟩),zi (s:Int),zi (level:Int)] w (Begun A w (((((({σ.tick with made:=σ.made+1}:St).cas 0 (σ.word 0) (clockW (timeOf (σ.word 0)+1) 0)).put (σ.place (σ.made+1)) (pack 1 0)).put (1+s) (timeOf (σ.word 0)+1)).setT s (txnOf (σ.made+1) level (timeOf (σ.word 0)+1))).event {kind:=1,t:=σ.made+1,n:=timeOf (σ.word 0)+1,op:=⟨0,0,0,level⟩}) (σ.made+1)):=by
 have hR:=hL.rep;generalize hσ4:({σ.tick with made:=σ.made+1}:St).cas 0 (σ.word 0) (clockW (timeOf (σ.word 0)+1) 0)=σ4;have HS4:Hid (({σ.tick with made:=σ.made+1}:St).cas 0 (σ.word 0) (clockW (timeOf (σ.word 0)+1) 0)=σ4∧σ4.place (σ.made+1)=σ.place (σ.made+1)∧σ4.txns=σ.txns∧σ4.calls=σ.calls∧σ4.tale=σ.tale∧σ4.count<3000000000000000010):=by
  refine⟨hσ4,?_,?_,?_,?_,?_⟩<;>rw[←hσ4]
  · rw[cas_place];rfl
  · rw[cas_txns];rfl
  · rw[cas_calls];rfl
  · rw[cas_tale];rfl
  · rw[cas_count];show σ.count+1+1<_;omega
 clear hσ4;have b1:(s:Int)<8:=by omega
 have b0:(0:Int)≤(s:Int):=by omega
 have hsok:=zH (sessionOk s hs);have hlev:=zH (levelOk level hl1 hl2);have e2:=hR.z2;have v5:=hR.eng (5+s) (engCs_txn A σ hs);rw[show A.tp σ s=.pointer none by unfold Book.tp;rw[hn]] at v5;have v21:w.cell? ⟨A.be,21,none⟩=some (zi (σ.made:Int)):=hR.eng 21 rfl;have d1:decide ((2000:Int)≤(σ.made:Int))=false:=by simp;omega
 have d2:((2000:Int)≤(σ.made:Int))=False:=by simp;omega
 have d3:(2000≤σ.made)=False:=by simp;omega
 have l1:decide ((σ.limit:Int)≤(timeOf (σ.word 0):Int))=false:=by simp;omega
 have l2:((σ.limit:Int)≤(timeOf (σ.word 0):Int))=False:=by simp;omega
 have l3:(σ.limit≤timeOf (σ.word 0))=False:=by simp;omega
 have k1:decide ((0:Int)<(lastOf (σ.word 0):Int))=false:=by simp;omega
 have k2:((0:Int)<(lastOf (σ.word 0):Int))=False:=by simp;omega
 have k3:(0<lastOf (σ.word 0))=False:=by simp;omega
 have n1:IntKind.i64.wrap ((σ.made:Int)+1)=(σ.made:Int)+1:=by rw[IntKind.wrap_i64];omega
 have n2:IntKind.u64.wrap ((timeOf (σ.word 0):Int)+1)=(timeOf (σ.word 0):Int)+1:=by rw[IntKind.wrap_u64];omega
 have n3:IntKind.i64.wrap (1+(s:Int))=1+(s:Int):=by rw[IntKind.wrap_i64];omega
 have HLo:=zH (load_i hR 0 0 rfl (by rw[hR.nw];omega) (by omega));have HDr:=zH (fun w'=>drawn_any (σ.word 0) hx w');have H1:Hid (∀ w1,Rep A σ.tick w1→Grow A.L w A.L w1→w1.cell? ⟨A.be,1,none⟩=some (zu (σ.limit:Int))∧w1.cell? ⟨A.be,21,none⟩=some (zi (σ.made:Int))∧w1.frozen? ⟨A.be,21,none⟩=false):=
  fun w1 r g=>⟨r.eng 1 rfl,r.eng 21 rfl,r.engF 21⟩
 have hmm:∀ w,(Instr.makeMap 143 none).run Tryz.prog w=.ok (.map (some w.heap.size)) (w.alloc (.map #[] 0)):=fun w=>rfl
 have HL0:=zH (zA hL (zA hs (zA hn (zA hcn (zA hmd (zA htm (zA hcnt (zA htl hx))))))));clear hL hs hl1 hl2 hn hcn hmd hx htm hlim hlo hcnt htl;clear hR;go_enter Tryz.func36,Tryz.ntmps36;go_wp2_with (first|(go_at_call 64;refine (hsok.out _).mono ?_;rintro e w' ⟨rfl,rfl⟩)|(go_at_call 65;refine (hlev.out _).mono ?_;rintro e w' ⟨rfl,rfl⟩)|(go_at_call 66;refine HLo.out.mono ?_;rintro e w1 ⟨rfl,q1,q2⟩;obtain⟨y1,y2,y3⟩:=H1.out w1 q1 q2;have HQ1:=zH (zA q1 q2);clear q1 q2)|(go_at_call 67;refine (HDr.out _).mono ?_;rintro e w' ⟨rfl,rfl⟩));obtain⟨hL,hs,hn,hcn,hmd,htm,hcnt,htl,hx⟩:=HL0.out;obtain⟨r1,g1⟩:=HQ1.out;obtain⟨rm,gm⟩:=r1.madeSet (σ.made+1);rw[show ((σ.made+1:Nat):Int)=(σ.made:Int)+1 from rfl] at rm gm;have hz3:(w1.setCell ⟨A.be,21,none⟩ (zi ((σ.made:Int)+1))).heap.size=w1.heap.size:=by simp[World.setCell]
 generalize hw3:w1.setCell ⟨A.be,21,none⟩ (zi ((σ.made:Int)+1))=w3 at*;generalize hw4:(w3.alloc (.map #[] 0)).alloc _=w4;have r4:Rep A ({σ.tick with made:=σ.made+1}:St) w4:=by rw[←hw4];exact (rm.alloc _).alloc _
 have g34:Grow A.L w3 A.L w4:=by rw[←hw4];exact (Grow.alloc _ _ _).trans (Grow.alloc _ _ _)
 have g4:Grow A.L w A.L w4:=(g1.trans gm).trans g34;have hm4:w4.heap[w1.heap.size]? =some (.map #[] 0):=by rw[←hw4,←hz3];exact (Below.heap_alloc _ _ _ (by simp)).trans (heap_alloc_new w3 _)
 have hb4:w4.heap[w1.heap.size+1]? =some (.cells #[zi ((σ.made:Int)+1),zi (level:Int),zi (s:Int),zu ((timeOf (σ.word 0):Int)+1),zu 0,zi 0,.slice none 0 0,.map (some w1.heap.size),.slice none 0 0,.slice none 0 0,.int .u32 0,.int .i32 0,.int .u32 0,.bool false] 158):=by rw[←hw4,←hz3];exact heap_alloc2_new w3 _ _
 have hmL:A.L w1.heap.size=none:=by rw[←hz3];exact rm.mem.fresh _ (Nat.le_refl _)
 have hbL:A.L (w1.heap.size+1)=none:=by rw[←hz3];exact rm.mem.fresh _ (by omega)
 have hle:w.heap.size≤w1.heap.size:=g1.size;have F4:Fix A.L w4 (w1.heap.size+1) (.cells #[zi ((σ.made:Int)+1),zi (level:Int),zi (s:Int),zu ((timeOf (σ.word 0):Int)+1),zu 0,zi 0,.slice none 0 0,.map (some w1.heap.size),.slice none 0 0,.slice none 0 0,.int .u32 0,.int .i32 0,.int .u32 0,.bool false] 158):=⟨hbL,hb4⟩
 have M4:Fix A.L w4 w1.heap.size (.map #[] 0):=⟨hmL,hm4⟩
 have a2:=r4.eng 2 (v:=.pointer (some ⟨A.ba,0,none⟩)) rfl;have a3:=F4.cell 3 (v:=zu ((timeOf (σ.word 0):Int)+1)) rfl;have hk:Calls Tryz.prog 70 #[zu ((timeOf (σ.word 0):Int)+1),zi 0] w4.drew fun e w'=>e=.returned (zu ((clockW (timeOf (σ.word 0)+1) 0:Nat):Int))∧w'=w4.drew:=flip (clock_any (timeOf (σ.word 0)+1) 0 (by omega) (by omega) w4.drew)
 have HC:=zH hk;have HCA:=zH (cas_i r4.drew 0 (σ.word 0) (clockW (timeOf (σ.word 0)+1) 0) 0 rfl (by rw[r4.nw];omega) (by show σ.count+1<_;omega));have H4:=zH (zA g4 (zA F4 (zA M4 (zA hmL (zA hbL hle)))));clear hL hs hn hcn hmd htm hcnt htl hx r1 g1 rm gm hz3 hw3 hw4 r4 g34 g4 hm4 hb4 hmL hbL hle F4 M4 hk;refine wp_region_still_tail 10 (by kernel_rfl) (by kernel_rfl) ?_;simp only[zta,ztb,ztc,ztd]
 repeat still_step
 still_call HC.out
 refine wpStill_nil ?_;change wpList _ _ _ _ _ w4.drew;have HG4:Hid (Grow A.L w4 A.L w4.drew):=Grow.drew _ _;generalize w4.drew=wd4 at*;go_wp2_with (go_at_call 69;refine HCA.out.mono ?_;rintro e w5 ⟨rfl,q1,q2⟩);obtain⟨g4,F4,M4,hmL,hbL,hle⟩:=H4.out;obtain⟨hL,hs,hn,hcn,hmd,htm,hcnt,htl,hx⟩:=HL0.out;rw[HS4.out.1] at q1;obtain⟨-,p4,tx4,cl4,tl4,ct4⟩:=HS4.out;have g45:=HG4.out.trans q2;have F5:=F4.grow g45;have M5:=M4.grow g45;have g5:=g4.trans g45;have a2:=q1.eng 2 (v:=.pointer (some ⟨A.ba,0,none⟩)) rfl;have a0:=F5.cell 0 (v:=zi ((σ.made:Int)+1)) rfl;have hpl:Calls Tryz.prog 72 #[.pointer (some ⟨A.be,0,none⟩),zi ((σ.made:Int)+1)] w5.drew fun e w'=>e=.returned (zi ((σ.place (σ.made+1):Nat):Int))∧w'=w5.drew:=by
  have h:=place_still q1.drew (σ.made+1) (by omega);rw[p4] at h;exact h
 have HPL:=zH hpl;have HPK:=zH (pack_still 1 0 1 0 rfl rfl (by omega) (by omega) w5.drew);have HST:=zH (store_any q1.drew (σ.place (σ.made+1)) (pack 1 0) (by rw[q1.nw];have:=q1.sl;have:=congrArg (fun x=>x) p4;unfold St.place at p4 ⊢;omega) (by omega));have H5:=zH (zA g5 (zA F5 (zA M5 q1)));clear hL hs hn hcn hmd htm hcnt htl hx g4 F4 M4 hmL hbL hle g45 F5 M5 g5 q1 q2 hpl p4 tx4 cl4 tl4 ct4;refine wp_region_still_tail 11 (by kernel_rfl) (by kernel_rfl) ?_;simp only[zta,ztb,ztc,ztd]
 repeat still_step
 still_call HPL.out
 still_call HPK.out
 refine wpStill_nil ?_;change wpList _ _ _ _ _ w5.drew;have HG6:Hid (Grow A.L w5 A.L w5.drew):=Grow.drew _ _;generalize w5.drew=wd5 at*;go_wp2_with (go_at_call 71;refine HST.out.mono ?_;rintro e w6 ⟨rfl,q1,q2⟩);obtain⟨g5,F5,M5,_⟩:=H5.out;obtain⟨hL,hs,hn,hcn,hmd,htm,hcnt,htl,hx⟩:=HL0.out;have ct4:=HS4.out.2.2.2.2.2;have g56:=HG6.out.trans q2;have F6:=F5.grow g56;have M6:=M5.grow g56;have g6:=g5.trans g56;have a2:=q1.eng 2 (v:=.pointer (some ⟨A.ba,0,none⟩)) rfl;have a3:=F6.cell 3 (v:=zu ((timeOf (σ.word 0):Int)+1)) rfl;have HSU:=zH (store_i q1.drew (1+s) (timeOf (σ.word 0)+1) (1+(s:Int)) ((timeOf (σ.word 0):Int)+1) (by omega) (by omega) (by rw[q1.nw];omega) (by show σ4.count+1<_;omega));have H6:=zH (zA g6 (zA F6 M6));have HV5:Hid (∀ w7,Rep A ((σ4.put (σ.place (σ.made+1)) (pack 1 0)).put (1+s) (timeOf (σ.word 0)+1)) w7→w7.cell? ⟨A.be,5+s,none⟩=some (.pointer none)∧w7.frozen? ⟨A.be,5+s,none⟩=false):=by
  intro w7 r;have h:=r.eng (5+s) (engCs_txn A _ hs);rw[show A.tp ((σ4.put (σ.place (σ.made+1)) (pack 1 0)).put (1+s) (timeOf (σ.word 0)+1)) s=.pointer none by unfold Book.tp;rw[show ((σ4.put (σ.place (σ.made+1)) (pack 1 0)).put (1+s) (timeOf (σ.word 0)+1)).txns.getD s none=none by show σ4.txns.getD s none=none;rw[HS4.out.2.2.1];exact hn]] at h;exact⟨h,r.engF _⟩
 clear hL hs hn hcn hmd htm hcnt htl hx g5 F5 M5 g56 F6 M6 g6 q1 q2 ct4;refine wp_region_still_tail 10 (by kernel_rfl) (by kernel_rfl) ?_;simp only[zta,ztb,ztc,ztd]
 repeat still_step
 refine wpStill_nil ?_;change wpList _ _ _ _ _ w6.drew;have HG7:Hid (Grow A.L w6 A.L w6.drew):=Grow.drew _ _;generalize w6.drew=wd6 at*;go_wp2_with (go_at_call 71;refine HSU.out.mono ?_;rintro e w7 ⟨rfl,q1,q2⟩;obtain⟨m5,z5⟩:=HV5.out w7 q1;have H7:=zH (zA q1 q2);clear q1 q2);obtain⟨g6,F6,M6⟩:=H6.out;obtain⟨q1,q2⟩:=H7.out;obtain⟨_,_,_,hmL,hbL,hle⟩:=H4.out;obtain⟨hL,hs,hn,hcn,hmd,htm,hcnt,htl,hx⟩:=HL0.out;obtain⟨-,p4,tx4,cl4,tl4,ct4⟩:=HS4.out;have g67:=HG7.out.trans q2;have F7:=F6.grow g67;have M7:=M6.grow g67;have g7:=g6.trans g67;have hn6:((σ4.put (σ.place (σ.made+1)) (pack 1 0)).put (1+s) (timeOf (σ.word 0)+1)).txns.getD s none=none:=by show σ4.txns.getD s none=none;rw[tx4];exact hn
 have hblk:w7.heap[w1.heap.size+1]? =some (.cells (txnCs (A.newTxn s (w1.heap.size+1) w1.heap.size) s (txnOf (σ.made+1) level (timeOf (σ.word 0)+1))).toArray 158):=by
  rw[show (txnCs (A.newTxn s (w1.heap.size+1) w1.heap.size) s (txnOf (σ.made+1) level (timeOf (σ.word 0)+1))).toArray=#[zi ((σ.made:Int)+1),zi (level:Int),zi (s:Int),zu ((timeOf (σ.word 0):Int)+1),zu 0,zi 0,.slice none 0 0,.map (some w1.heap.size),.slice none 0 0,.slice none 0 0,.int .u32 0,.int .i32 0,.int .u32 0,.bool false] by simp[txnCs,Book.newTxn,upF,onceCs,txnOf]];exact F7.2
 obtain⟨rA,gA⟩:=q1.adoptTxn g7 F7.1 M7.1 hs (by omega) hle (by omega) (txnOf (σ.made+1) level (timeOf (σ.word 0)+1)) rfl rfl rfl rfl hblk M7.2 hn6;obtain⟨A8,hA8⟩:∃ A8:Book,A8=A.newTxn s (w1.heap.size+1) w1.heap.size:=⟨_,rfl⟩
 rw[←hA8] at rA gA;have e8:A8.be=A.be:=by rw[hA8];rfl
 have e8t:A8.bt s=w1.heap.size+1:=by rw[hA8];exact if_pos rfl
 have ht8:(((σ4.put (σ.place (σ.made+1)) (pack 1 0)).put (1+s) (timeOf (σ.word 0)+1)).setT s (txnOf (σ.made+1) level (timeOf (σ.word 0)+1))).txns.getD s none=some (txnOf (σ.made+1) level (timeOf (σ.word 0)+1)):=by rw[getT_set (by show s<σ4.txns.length;rw[tx4,hL.rep.n8];exact hs),if_pos rfl]
 generalize hw8:World.setCell w7 _ _=w8 at*;have c0:=rA.txn ht8 0 (v:=zi ((σ.made:Int)+1)) rfl;have c3:=rA.txn ht8 3 (v:=zu ((timeOf (σ.word 0):Int)+1)) rfl;rw[e8t] at c0 c3;have hev:=event_any rA.drew s {kind:=1,t:=σ.made+1,n:=timeOf (σ.word 0)+1,op:=⟨0,0,0,level⟩} 1 ((σ.made:Int)+1) ((timeOf (σ.word 0):Int)+1) 0 0 0 level 0 0 0 0 none 0 0 rfl (PRow.nil _ _) (by show σ4.tale.length<_;rw[tl4];exact htl);rw[e8] at hev;have HE:=zH hev;have H8:Hid (∀ A9 w9,Rep A9 ((((σ4.put (σ.place (σ.made+1)) (pack 1 0)).put (1+s) (timeOf (σ.word 0)+1)).setT s (txnOf (σ.made+1) level (timeOf (σ.word 0)+1))).event {kind:=1,t:=σ.made+1,n:=timeOf (σ.word 0)+1,op:=⟨0,0,0,level⟩}) w9→Stay A8 A9 s→w9.cell? ⟨w1.heap.size+1,0,none⟩=some (zi ((σ.made:Int)+1))):=by
  intro A9 w9 r st;have h:=r.txn (show ((((σ4.put (σ.place (σ.made+1)) (pack 1 0)).put (1+s) (timeOf (σ.word 0)+1)).setT s (txnOf (σ.made+1) level (timeOf (σ.word 0)+1))).event {kind:=1,t:=σ.made+1,n:=timeOf (σ.word 0)+1,op:=⟨0,0,0,level⟩}).txns.getD s none=some (txnOf (σ.made+1) level (timeOf (σ.word 0)+1)) from ht8) 0 (v:=zi ((σ.made:Int)+1)) rfl;rw[st.bt,e8t] at h;exact h
 have HAA:=zH (zA hA8 (zA gA (zA cl4 ht8)));clear hL hs hn hcn hmd htm hcnt htl hx g6 F6 M6 g67 F7 M7 g7 q1 q2 hmL hbL hle p4 tx4 cl4 tl4 ct4 hn6 hblk rA gA hA8 e8 e8t ht8 hw8 hev m5 z5;refine wp_region_still_tail 12 (by kernel_rfl) (by kernel_rfl) ?_;simp only[zta,ztb,ztc,ztd]
 repeat still_step
 refine wpStill_nil ?_;change wpList _ _ _ _ _ w8.drew;have HG9:Hid (∀ L,Grow L w8 L w8.drew):=fun L=>Grow.drew _ _
 generalize w8.drew=wd8 at*;go_wp2_with (go_at_call 74;refine HE.out.mono ?_;rintro e w9 ⟨rfl,A9,p1,p2,p3,p4,p5⟩;have t0:=H8.out A9 w9 p1 p3;have HP:=zH (zA p1 (zA p2 p3));clear p1 p2 p3 p4 p5)
 go_ret2
 obtain⟨p1,p2,p3⟩:=HP.out;obtain⟨hA8,gA,cl4,ht8⟩:=HAA.out;obtain⟨hL,hs,hn,hcn,_⟩:=HL0.out;have gg:=(gA.trans (HG9.out _)).trans p2;have hcl:∀ q,((((σ4.put (σ.place (σ.made+1)) (pack 1 0)).put (1+s) (timeOf (σ.word 0)+1)).setT s (txnOf (σ.made+1) level (timeOf (σ.word 0)+1))).event {kind:=1,t:=σ.made+1,n:=timeOf (σ.word 0)+1,op:=⟨0,0,0,level⟩}).calls.getD q none=σ.calls.getD q none:=fun q=>by show σ4.calls.getD q none=_;rw[cl4]
 rw[HS4.out.1.symm] at p1 ⊢;refine⟨A9,rfl,Live.of (s:=s) hL (sw_cas ({σ.tick with made:=σ.made+1}:St) 0 (σ.word 0) (clockW (timeOf (σ.word 0)+1) 0)) p1 gg ⟨p3.bf.trans (by rw[hA8];rfl),p3.mp.trans (by rw[hA8];rfl),p3.mt.trans (by rw[hA8];funext k;show (if k=s then 0 else A.mt k)=A.mt k;by_cases hk:k=s;rw[if_pos hk,hL.mt k];rw[if_neg hk]),fun q hq=>by rw[p3.bt,hA8];exact if_neg hq,fun q _=>by rw[p3.bc,hA8];rfl,fun q hq=>(p3.bx q hq).trans (by rw[hA8];rfl),fun q hq=>(p3.vpairs q hq).trans (by rw[hA8];rfl),fun q _=>by rw[p3.vnext,hA8];rfl,fun q _=>by rw[p3.vcall,hA8];rfl⟩ (fun q hq=>?_) (fun c' hcc=>?_) (fun _=>?_),gg,p3.be.trans (by rw[hA8];rfl)⟩
 · rw[HS4.out.1];exact hcl q
 · rw[HS4.out.1,hcl s,hcn] at hcc;cases hcc
 · rw[p3.vcall,hA8];exact hL.idle s hs hcn
theorem begin_help (hL:Live A σ w) (s:Nat) (hs:s<8) (level:Nat) (hl1:1≤level) (hl2:level≤3) (hn:σ.txns.getD s none=none) (hcn:σ.calls.getD s none=none) (hmd:σ.made<2000) (hx:σ.word 0<18446744073709551616) (htm:timeOf (σ.word 0)<281474976710000) (hlim:timeOf (σ.word 0)<σ.limit) (hlo:0<lastOf (σ.word 0)∧lastOf (σ.word 0)≤2000) (hcnt:σ.count<3000000000000000000) (htl:σ.tale.length<1000000):
 Calls Tryz.prog 36 #[.pointer (some ⟨A.be,0,none⟩),zi (s:Int),zi (level:Int)] w (Begun A w (((((({(σ.tick.help (σ.word 0)) with made:=σ.made+1}:St).cas 0 (σ.word 0) (clockW (timeOf (σ.word 0)+1) 0)).put (σ.place (σ.made+1)) (pack 1 0)).put (1+s) (timeOf (σ.word 0)+1)).setT s (txnOf (σ.made+1) level (timeOf (σ.word 0)+1))).event {kind:=1,t:=σ.made+1,n:=timeOf (σ.word 0)+1,op:=⟨0,0,0,level⟩}) (σ.made+1)):=by
 have hR:=hL.rep;generalize hσ4:({(σ.tick.help (σ.word 0)) with made:=σ.made+1}:St).cas 0 (σ.word 0) (clockW (timeOf (σ.word 0)+1) 0)=σ4;have HS4:Hid (({(σ.tick.help (σ.word 0)) with made:=σ.made+1}:St).cas 0 (σ.word 0) (clockW (timeOf (σ.word 0)+1) 0)=σ4∧σ4.place (σ.made+1)=σ.place (σ.made+1)∧σ4.txns=σ.txns∧σ4.calls=σ.calls∧σ4.tale=σ.tale∧σ4.count<3000000000000000010):=by
  refine⟨hσ4,?_,?_,?_,?_,?_⟩<;>rw[←hσ4]
  · rw[cas_place];exact help_place σ.tick (σ.word 0) (σ.made+1)
  · rw[cas_txns];exact help_txns σ.tick (σ.word 0)
  · rw[cas_calls];exact help_calls σ.tick (σ.word 0)
  · rw[cas_tale];exact help_tale σ.tick (σ.word 0)
  · rw[cas_count];show (σ.tick.help (σ.word 0)).count+1<_;rw[help_count];show σ.count+1+1+1<_;omega
 clear hσ4;have b1:(s:Int)<8:=by omega
 have b0:(0:Int)≤(s:Int):=by omega
 have hsok:=zH (sessionOk s hs);have hlev:=zH (levelOk level hl1 hl2);have e2:=hR.z2;have v5:=hR.eng (5+s) (engCs_txn A σ hs);rw[show A.tp σ s=.pointer none by unfold Book.tp;rw[hn]] at v5;have v21:w.cell? ⟨A.be,21,none⟩=some (zi (σ.made:Int)):=hR.eng 21 rfl;have d1:decide ((2000:Int)≤(σ.made:Int))=false:=by simp;omega
 have d2:((2000:Int)≤(σ.made:Int))=False:=by simp;omega
 have d3:(2000≤σ.made)=False:=by simp;omega
 have l1:decide ((σ.limit:Int)≤(timeOf (σ.word 0):Int))=false:=by simp;omega
 have l2:((σ.limit:Int)≤(timeOf (σ.word 0):Int))=False:=by simp;omega
 have l3:(σ.limit≤timeOf (σ.word 0))=False:=by simp;omega
 have k1:decide ((0:Int)<(lastOf (σ.word 0):Int))=true:=by simp;omega
 have k2:((0:Int)<(lastOf (σ.word 0):Int))=True:=by simp;omega
 have k3:(0<lastOf (σ.word 0))=True:=by simp;omega
 have n1:IntKind.i64.wrap ((σ.made:Int)+1)=(σ.made:Int)+1:=by rw[IntKind.wrap_i64];omega
 have n2:IntKind.u64.wrap ((timeOf (σ.word 0):Int)+1)=(timeOf (σ.word 0):Int)+1:=by rw[IntKind.wrap_u64];omega
 have n3:IntKind.i64.wrap (1+(s:Int))=1+(s:Int):=by rw[IntKind.wrap_i64];omega
 have HLo:=zH (load_i hR 0 0 rfl (by rw[hR.nw];omega) (by omega));have HDr:=zH (fun w'=>drawn_any (σ.word 0) hx w');have H1:Hid (∀ w1,Rep A σ.tick w1→Grow A.L w A.L w1→w1.cell? ⟨A.be,1,none⟩=some (zu (σ.limit:Int))∧w1.cell? ⟨A.be,21,none⟩=some (zi (σ.made:Int))∧w1.frozen? ⟨A.be,21,none⟩=false∧Calls Tryz.prog 68 #[.pointer (some ⟨A.be,0,none⟩),zu (σ.word 0:Int)] w1 (Did A w1 (σ.tick.help (σ.word 0)) (.tuple #[]))):=
  fun w1 r g=>⟨r.eng 1 rfl,r.eng 21 rfl,r.engF 21,help_any r (σ.word 0) hx hlo.2 (by show σ.count+1<_;omega)⟩
 have H2 : Hid (∀ w1 w2, Rep A (σ.tick.help (σ.word 0)) w2 → Grow A.L w1 A.L w2 → w2.cell? ⟨A.be, 21, none⟩ = some (zi (σ.made : Int)) ∧ w2.frozen? ⟨A.be, 21, none⟩ = false) := fun w1 w2 r g => ⟨by
     have h:=r.eng 21 (v:=zi ((σ.tick.help (σ.word 0)).made:Int)) rfl
     rw[show (σ.tick.help (σ.word 0)).made=σ.made by unfold St.help St.cas;split<;>rfl] at h
     exact h,r.engF 21⟩
 have hmm:∀ w,(Instr.makeMap 143 none).run Tryz.prog w=.ok (.map (some w.heap.size)) (w.alloc (.map #[] 0)):=fun w=>rfl
 have HL0:=zH (zA hL (zA hs (zA hn (zA hcn (zA hmd (zA htm (zA hcnt (zA htl hx))))))));clear hL hs hl1 hl2 hn hcn hmd hx htm hlim hlo hcnt htl;clear hR;go_enter Tryz.func36,Tryz.ntmps36;go_wp2_with (first|(go_at_call 64;refine (hsok.out _).mono ?_;rintro e w' ⟨rfl,rfl⟩)|(go_at_call 65;refine (hlev.out _).mono ?_;rintro e w' ⟨rfl,rfl⟩)|(go_at_call 66;refine HLo.out.mono ?_;rintro e w1 ⟨rfl,q1,q2⟩;obtain⟨y1,y2,y3,hhelp⟩:=H1.out w1 q1 q2;have HH:=zH hhelp;clear hhelp;have HQ1:=zH (zA q1 q2);clear q1 q2)|(go_at_call 67;refine (HDr.out _).mono ?_;rintro e w' ⟨rfl,rfl⟩)|(go_at_call 68;refine HH.out.mono ?_;rintro e w2 ⟨rfl,q1,q2⟩;obtain⟨y4,y5⟩:=H2.out w1 w2 q1 q2;have HQ2:=zH (zA q1 q2);clear q1 q2));obtain⟨hL,hs,hn,hcn,hmd,htm,hcnt,htl,hx⟩:=HL0.out;obtain⟨r1,g12⟩:=HQ2.out;have g1:=HQ1.out.2.trans g12;clear g12;obtain⟨rm,gm⟩:=r1.madeSet (σ.made+1);rw[show ((σ.made+1:Nat):Int)=(σ.made:Int)+1 from rfl] at rm gm;have hz3:(w2.setCell ⟨A.be,21,none⟩ (zi ((σ.made:Int)+1))).heap.size=w2.heap.size:=by simp[World.setCell]
 generalize hw3:w2.setCell ⟨A.be,21,none⟩ (zi ((σ.made:Int)+1))=w3 at*;generalize hw4:(w3.alloc (.map #[] 0)).alloc _=w4;have r4:Rep A ({(σ.tick.help (σ.word 0)) with made:=σ.made+1}:St) w4:=by rw[←hw4];exact (rm.alloc _).alloc _
 have g34:Grow A.L w3 A.L w4:=by rw[←hw4];exact (Grow.alloc _ _ _).trans (Grow.alloc _ _ _)
 have g4:Grow A.L w A.L w4:=(g1.trans gm).trans g34;have hm4:w4.heap[w2.heap.size]? =some (.map #[] 0):=by rw[←hw4,←hz3];exact (Below.heap_alloc _ _ _ (by simp)).trans (heap_alloc_new w3 _)
 have hb4:w4.heap[w2.heap.size+1]? =some (.cells #[zi ((σ.made:Int)+1),zi (level:Int),zi (s:Int),zu ((timeOf (σ.word 0):Int)+1),zu 0,zi 0,.slice none 0 0,.map (some w2.heap.size),.slice none 0 0,.slice none 0 0,.int .u32 0,.int .i32 0,.int .u32 0,.bool false] 158):=by rw[←hw4,←hz3];exact heap_alloc2_new w3 _ _
 have hmL:A.L w2.heap.size=none:=by rw[←hz3];exact rm.mem.fresh _ (Nat.le_refl _)
 have hbL:A.L (w2.heap.size+1)=none:=by rw[←hz3];exact rm.mem.fresh _ (by omega)
 have hle:w.heap.size≤w2.heap.size:=g1.size;have F4:Fix A.L w4 (w2.heap.size+1) (.cells #[zi ((σ.made:Int)+1),zi (level:Int),zi (s:Int),zu ((timeOf (σ.word 0):Int)+1),zu 0,zi 0,.slice none 0 0,.map (some w2.heap.size),.slice none 0 0,.slice none 0 0,.int .u32 0,.int .i32 0,.int .u32 0,.bool false] 158):=⟨hbL,hb4⟩
 have M4:Fix A.L w4 w2.heap.size (.map #[] 0):=⟨hmL,hm4⟩
 have a2:=r4.eng 2 (v:=.pointer (some ⟨A.ba,0,none⟩)) rfl;have a3:=F4.cell 3 (v:=zu ((timeOf (σ.word 0):Int)+1)) rfl;have hk:Calls Tryz.prog 70 #[zu ((timeOf (σ.word 0):Int)+1),zi 0] w4.drew fun e w'=>e=.returned (zu ((clockW (timeOf (σ.word 0)+1) 0:Nat):Int))∧w'=w4.drew:=flip (clock_any (timeOf (σ.word 0)+1) 0 (by omega) (by omega) w4.drew)
 have HC:=zH hk;have HCA:=zH (cas_i r4.drew 0 (σ.word 0) (clockW (timeOf (σ.word 0)+1) 0) 0 rfl (by rw[r4.nw];omega) (by show (σ.tick.help (σ.word 0)).count<_;have:=help_count σ.tick (σ.word 0);have e:σ.tick.count=σ.count+1:=rfl;omega));have H4:=zH (zA g4 (zA F4 (zA M4 (zA hmL (zA hbL hle)))));clear hL hs hn hcn hmd htm hcnt htl hx r1 g1 rm gm hz3 hw3 hw4 r4 g34 g4 hm4 hb4 hmL hbL hle F4 M4 hk;refine wp_region_still_tail 10 (by kernel_rfl) (by kernel_rfl) ?_;simp only[zta,ztb,ztc,ztd]
 repeat still_step
 still_call HC.out
 refine wpStill_nil ?_;change wpList _ _ _ _ _ w4.drew;have HG4:Hid (Grow A.L w4 A.L w4.drew):=Grow.drew _ _;generalize w4.drew=wd4 at*;go_wp2_with (go_at_call 69;refine HCA.out.mono ?_;rintro e w5 ⟨rfl,q1,q2⟩);obtain⟨g4,F4,M4,hmL,hbL,hle⟩:=H4.out;obtain⟨hL,hs,hn,hcn,hmd,htm,hcnt,htl,hx⟩:=HL0.out;rw[HS4.out.1] at q1;obtain⟨-,p4,tx4,cl4,tl4,ct4⟩:=HS4.out;have g45:=HG4.out.trans q2;have F5:=F4.grow g45;have M5:=M4.grow g45;have g5:=g4.trans g45;have a2:=q1.eng 2 (v:=.pointer (some ⟨A.ba,0,none⟩)) rfl;have a0:=F5.cell 0 (v:=zi ((σ.made:Int)+1)) rfl;have hpl:Calls Tryz.prog 72 #[.pointer (some ⟨A.be,0,none⟩),zi ((σ.made:Int)+1)] w5.drew fun e w'=>e=.returned (zi ((σ.place (σ.made+1):Nat):Int))∧w'=w5.drew:=by
  have h:=place_still q1.drew (σ.made+1) (by omega);rw[p4] at h;exact h
 have HPL:=zH hpl;have HPK:=zH (pack_still 1 0 1 0 rfl rfl (by omega) (by omega) w5.drew);have HST:=zH (store_any q1.drew (σ.place (σ.made+1)) (pack 1 0) (by rw[q1.nw];have:=q1.sl;have:=congrArg (fun x=>x) p4;unfold St.place at p4 ⊢;omega) (by omega));have H5:=zH (zA g5 (zA F5 (zA M5 q1)));clear hL hs hn hcn hmd htm hcnt htl hx g4 F4 M4 hmL hbL hle g45 F5 M5 g5 q1 q2 hpl p4 tx4 cl4 tl4 ct4;refine wp_region_still_tail 11 (by kernel_rfl) (by kernel_rfl) ?_;simp only[zta,ztb,ztc,ztd]
 repeat still_step
 still_call HPL.out
 still_call HPK.out
 refine wpStill_nil ?_;change wpList _ _ _ _ _ w5.drew;have HG6:Hid (Grow A.L w5 A.L w5.drew):=Grow.drew _ _;generalize w5.drew=wd5 at*;go_wp2_with (go_at_call 71;refine HST.out.mono ?_;rintro e w6 ⟨rfl,q1,q2⟩);obtain⟨g5,F5,M5,_⟩:=H5.out;obtain⟨hL,hs,hn,hcn,hmd,htm,hcnt,htl,hx⟩:=HL0.out;have ct4:=HS4.out.2.2.2.2.2;have g56:=HG6.out.trans q2;have F6:=F5.grow g56;have M6:=M5.grow g56;have g6:=g5.trans g56;have a2:=q1.eng 2 (v:=.pointer (some ⟨A.ba,0,none⟩)) rfl;have a3:=F6.cell 3 (v:=zu ((timeOf (σ.word 0):Int)+1)) rfl;have HSU:=zH (store_i q1.drew (1+s) (timeOf (σ.word 0)+1) (1+(s:Int)) ((timeOf (σ.word 0):Int)+1) (by omega) (by omega) (by rw[q1.nw];omega) (by show σ4.count+1<_;omega));have H6:=zH (zA g6 (zA F6 M6));have HV5:Hid (∀ w7,Rep A ((σ4.put (σ.place (σ.made+1)) (pack 1 0)).put (1+s) (timeOf (σ.word 0)+1)) w7→w7.cell? ⟨A.be,5+s,none⟩=some (.pointer none)∧w7.frozen? ⟨A.be,5+s,none⟩=false):=by
  intro w7 r;have h:=r.eng (5+s) (engCs_txn A _ hs);rw[show A.tp ((σ4.put (σ.place (σ.made+1)) (pack 1 0)).put (1+s) (timeOf (σ.word 0)+1)) s=.pointer none by unfold Book.tp;rw[show ((σ4.put (σ.place (σ.made+1)) (pack 1 0)).put (1+s) (timeOf (σ.word 0)+1)).txns.getD s none=none by show σ4.txns.getD s none=none;rw[HS4.out.2.2.1];exact hn]] at h;exact⟨h,r.engF _⟩
 clear hL hs hn hcn hmd htm hcnt htl hx g5 F5 M5 g56 F6 M6 g6 q1 q2 ct4;refine wp_region_still_tail 10 (by kernel_rfl) (by kernel_rfl) ?_;simp only[zta,ztb,ztc,ztd]
 repeat still_step
 refine wpStill_nil ?_;change wpList _ _ _ _ _ w6.drew;have HG7:Hid (Grow A.L w6 A.L w6.drew):=Grow.drew _ _;generalize w6.drew=wd6 at*;go_wp2_with (go_at_call 71;refine HSU.out.mono ?_;rintro e w7 ⟨rfl,q1,q2⟩;obtain⟨m5,z5⟩:=HV5.out w7 q1;have H7:=zH (zA q1 q2);clear q1 q2);obtain⟨g6,F6,M6⟩:=H6.out;obtain⟨q1,q2⟩:=H7.out;obtain⟨_,_,_,hmL,hbL,hle⟩:=H4.out;obtain⟨hL,hs,hn,hcn,hmd,htm,hcnt,htl,hx⟩:=HL0.out;obtain⟨-,p4,tx4,cl4,tl4,ct4⟩:=HS4.out;have g67:=HG7.out.trans q2;have F7:=F6.grow g67;have M7:=M6.grow g67;have g7:=g6.trans g67;have hn6:((σ4.put (σ.place (σ.made+1)) (pack 1 0)).put (1+s) (timeOf (σ.word 0)+1)).txns.getD s none=none:=by show σ4.txns.getD s none=none;rw[tx4];exact hn
 have hblk:w7.heap[w2.heap.size+1]? =some (.cells (txnCs (A.newTxn s (w2.heap.size+1) w2.heap.size) s (txnOf (σ.made+1) level (timeOf (σ.word 0)+1))).toArray 158):=by
  rw[show (txnCs (A.newTxn s (w2.heap.size+1) w2.heap.size) s (txnOf (σ.made+1) level (timeOf (σ.word 0)+1))).toArray=#[zi ((σ.made:Int)+1),zi (level:Int),zi (s:Int),zu ((timeOf (σ.word 0):Int)+1),zu 0,zi 0,.slice none 0 0,.map (some w2.heap.size),.slice none 0 0,.slice none 0 0,.int .u32 0,.int .i32 0,.int .u32 0,.bool false] by simp[txnCs,Book.newTxn,upF,onceCs,txnOf]];exact F7.2
 obtain⟨rA,gA⟩:=q1.adoptTxn g7 F7.1 M7.1 hs (by omega) hle (by omega) (txnOf (σ.made+1) level (timeOf (σ.word 0)+1)) rfl rfl rfl rfl hblk M7.2 hn6;obtain⟨A8,hA8⟩:∃ A8:Book,A8=A.newTxn s (w2.heap.size+1) w2.heap.size:=⟨_,rfl⟩
 rw[←hA8] at rA gA;have e8:A8.be=A.be:=by rw[hA8];rfl
 have e8t:A8.bt s=w2.heap.size+1:=by rw[hA8];exact if_pos rfl
 have ht8:(((σ4.put (σ.place (σ.made+1)) (pack 1 0)).put (1+s) (timeOf (σ.word 0)+1)).setT s (txnOf (σ.made+1) level (timeOf (σ.word 0)+1))).txns.getD s none=some (txnOf (σ.made+1) level (timeOf (σ.word 0)+1)):=by rw[getT_set (by show s<σ4.txns.length;rw[tx4,hL.rep.n8];exact hs),if_pos rfl]
 generalize hw8:World.setCell w7 _ _=w8 at*;have c0:=rA.txn ht8 0 (v:=zi ((σ.made:Int)+1)) rfl;have c3:=rA.txn ht8 3 (v:=zu ((timeOf (σ.word 0):Int)+1)) rfl;rw[e8t] at c0 c3;have hev:=event_any rA.drew s {kind:=1,t:=σ.made+1,n:=timeOf (σ.word 0)+1,op:=⟨0,0,0,level⟩} 1 ((σ.made:Int)+1) ((timeOf (σ.word 0):Int)+1) 0 0 0 level 0 0 0 0 none 0 0 rfl (PRow.nil _ _) (by show σ4.tale.length<_;rw[tl4];exact htl);rw[e8] at hev;have HE:=zH hev;have H8:Hid (∀ A9 w9,Rep A9 ((((σ4.put (σ.place (σ.made+1)) (pack 1 0)).put (1+s) (timeOf (σ.word 0)+1)).setT s (txnOf (σ.made+1) level (timeOf (σ.word 0)+1))).event {kind:=1,t:=σ.made+1,n:=timeOf (σ.word 0)+1,op:=⟨0,0,0,level⟩}) w9→Stay A8 A9 s→w9.cell? ⟨w2.heap.size+1,0,none⟩=some (zi ((σ.made:Int)+1))):=by
  intro A9 w9 r st;have h:=r.txn (show ((((σ4.put (σ.place (σ.made+1)) (pack 1 0)).put (1+s) (timeOf (σ.word 0)+1)).setT s (txnOf (σ.made+1) level (timeOf (σ.word 0)+1))).event {kind:=1,t:=σ.made+1,n:=timeOf (σ.word 0)+1,op:=⟨0,0,0,level⟩}).txns.getD s none=some (txnOf (σ.made+1) level (timeOf (σ.word 0)+1)) from ht8) 0 (v:=zi ((σ.made:Int)+1)) rfl;rw[st.bt,e8t] at h;exact h
 have HAA:=zH (zA hA8 (zA gA (zA cl4 ht8)));clear hL hs hn hcn hmd htm hcnt htl hx g6 F6 M6 g67 F7 M7 g7 q1 q2 hmL hbL hle p4 tx4 cl4 tl4 ct4 hn6 hblk rA gA hA8 e8 e8t ht8 hw8 hev m5 z5;refine wp_region_still_tail 12 (by kernel_rfl) (by kernel_rfl) ?_;simp only[zta,ztb,ztc,ztd]
 repeat still_step
 refine wpStill_nil ?_;change wpList _ _ _ _ _ w8.drew;have HG9:Hid (∀ L,Grow L w8 L w8.drew):=fun L=>Grow.drew _ _
 generalize w8.drew=wd8 at*;go_wp2_with (go_at_call 74;refine HE.out.mono ?_;rintro e w9 ⟨rfl,A9,p1,p2,p3,p4,p5⟩;have t0:=H8.out A9 w9 p1 p3;have HP:=zH (zA p1 (zA p2 p3));clear p1 p2 p3 p4 p5)
 go_ret2
 obtain⟨p1,p2,p3⟩:=HP.out;obtain⟨hA8,gA,cl4,ht8⟩:=HAA.out;obtain⟨hL,hs,hn,hcn,_⟩:=HL0.out;have gg:=(gA.trans (HG9.out _)).trans p2;have hcl:∀ q,((((σ4.put (σ.place (σ.made+1)) (pack 1 0)).put (1+s) (timeOf (σ.word 0)+1)).setT s (txnOf (σ.made+1) level (timeOf (σ.word 0)+1))).event {kind:=1,t:=σ.made+1,n:=timeOf (σ.word 0)+1,op:=⟨0,0,0,level⟩}).calls.getD q none=σ.calls.getD q none:=fun q=>by show σ4.calls.getD q none=_;rw[cl4]
 rw[HS4.out.1.symm] at p1 ⊢;refine⟨A9,rfl,Live.of (s:=s) hL ⟨(sw_cas ({σ.tick.help (σ.word 0) with made:=σ.made+1}:St) 0 (σ.word 0) (clockW (timeOf (σ.word 0)+1) 0)).1.trans (sw_help σ.tick (σ.word 0)).1,(sw_cas ({σ.tick.help (σ.word 0) with made:=σ.made+1}:St) 0 (σ.word 0) (clockW (timeOf (σ.word 0)+1) 0)).2.trans (sw_help σ.tick (σ.word 0)).2⟩ p1 gg ⟨p3.bf.trans (by rw[hA8];rfl),p3.mp.trans (by rw[hA8];rfl),p3.mt.trans (by rw[hA8];funext k;show (if k=s then 0 else A.mt k)=A.mt k;by_cases hk:k=s;rw[if_pos hk,hL.mt k];rw[if_neg hk]),fun q hq=>by rw[p3.bt,hA8];exact if_neg hq,fun q _=>by rw[p3.bc,hA8];rfl,fun q hq=>(p3.bx q hq).trans (by rw[hA8];rfl),fun q hq=>(p3.vpairs q hq).trans (by rw[hA8];rfl),fun q _=>by rw[p3.vnext,hA8];rfl,fun q _=>by rw[p3.vcall,hA8];rfl⟩ (fun q hq=>?_) (fun c' hcc=>?_) (fun _=>?_),gg,p3.be.trans (by rw[hA8];rfl)⟩
 · rw[HS4.out.1];exact hcl q
 · rw[HS4.out.1,hcl s,hcn] at hcc;cases hcc
 · rw[p3.vcall,hA8];exact hL.idle s hs hcn
end Go.Proofs.YtiimlopcifljeaaGreatDoor.Em
