import Derived.Test.YtpkenfnmkpmapaaGreatQh9
import Derived.Test.YtpkenfnmkpmapaaGreatQh10
import Derived.Test.YtpkenfnmkpmapaaGreatQh6
namespace Go.Proofs.YtpkenfnmkpmapaaGreat.Em
open Go.ChangeShapes Go.WideShapes Go.ChangeAt Go.RowKit En
set_option linter.unusedVariables false
set_option linter.unusedSimpArgs false
set_option maxRecDepth 100000
set_option maxHeartbeats 1600000
variable {A:Book} {σ:St} {w:World}
theorem trnCs_append (a b:List Trn):trnCs (a++b)=trnCs a++trnCs b:=by simp[trnCs]
theorem infoT:(Tryz.prog.info? 223).map (fun i=>(i.zero,i.size,i.bytes))=some (some (.agg #[zi 0,zu 0,zu 0]),3,24):=by kernel_rfl
theorem wp_turn {ops:Array Oper} {rest:List Oper} {o:Oper} {a:Act} {Q:Exit→Act→World→Prop} (w:World) (hgd:o.guard=none) (s x:Operand)
 (ho:o.op=.call {callee:=.builtin .append,args:=#[s,x],argTypes:=#[221,221]})
 (w0:World) (hb:Below w0.heap.size w0 w) (av:Option Addr) (m cap:Nat) (xs:List Value) (hs:a.eval s=.slice av m cap) (hown:w.ownsRow w0.heap.size 223 3 (.slice av m cap) m xs) (hm:m<4000000)
 (t0 t1 t2:Int) (hx:a.eval x=.slice (some ⟨w.heap.size,0,none⟩) 1 1)
 (h:∀ av' cap' w',w'.ownsRow w0.heap.size 223 3 (.slice av' (m+1) cap') (m+1) (xs++[zi t0,zu t1,zu t2])→Below w0.heap.size w0 w'→wpList Tryz.prog ops Q rest (a.put o.dst (.slice av' (m+1) cap')) w'):
 wpList Tryz.prog ops Q (o::rest) a (w.alloc (.cells #[zi t0,zu t1,zu t2] 223)):=by
 obtain⟨ii,hii,hz0,hz1,hz2⟩:=info_parts infoT;have hw:=hb.size;have hown':(w.alloc (.cells #[zi t0,zu t1,zu t2] 223)).ownsRow w0.heap.size 223 3 (.slice av m cap) m xs:=own_same hown fun g hg=>Below.heap_alloc _ _ _ (hown.lt g hg).2
 refine Ow.wpList_append_to _ hgd s x 221 ho w0.heap.size 223 ii _ 3 24 Tryz.underlying221 hii hz0 hz1 hz2 rfl (by decide) (.slice av m cap) m xs hs hown' ⟨w.heap.size,0,none⟩ 1 1 (by omega) [zi t0,zu t1,zu t2] hx rfl (fun j u hu=>Ow.new_row w [zi t0,zu t1,zu t2] _ _ rfl j u hu) (by intro u hu;simp at hu;rcases hu with rfl|rfl|rfl<;>rfl) (by unfold maxLen;omega) (by omega) (by simp;omega) ?_;intro v' w' q1 q2 q3;obtain⟨av',cap',rfl,_⟩:=Ow.own_form q1;exact h av' cap' w' q1 ((hb.alloc hw _).grown q2 (by simp;omega) (fun g hg=>(hown.lt g hg).1))
theorem frow_of_own {L:Lab} {w0 w:World} {av:Option Addr} {m cap:Nat} {xs:List Value} (h:w.ownsRow w0.heap.size 223 3 (.slice av m cap) m xs) (hL:∀ b,w0.heap.size≤b→L b=none):FRow L w 3 (.slice av m cap) xs:=by
 obtain⟨a,c,e,h1,h2,h3⟩:=Ow.own_form h;obtain⟨rfl,rfl⟩:av=a∧cap=c:=by simpa using e
 refine⟨av,m,cap,rfl,h.1,h1,by unfold maxLen;omega,?_⟩
 rcases h.2 with ⟨h0,hn⟩|⟨g,cap',cur,hv,hb,hg,hnc,hcm,hcs,htake⟩
 · exact .inl (by first|exact h0|omega)
 · obtain⟨rfl,rfl⟩:av=some ⟨g,0,none⟩∧cap=cap':=by simpa using hv
   refine .inr ⟨g,0,rfl,hL g (h.lt g rfl).1,(h.lt g rfl).2,fun j hj=>?_⟩;rw[Nat.zero_add];exact h.cellAt j hj
theorem turns_at (hR:Rep A σ w) (s:Nat) (l:List Trn) (lv:Value) (hl:FRow A.L w 3 lv (trnCs l)) (r:Res) (re rv ro rr:Int) (vp:Value) (hcs:resCs r vp=[zi re,zi rv,vp,zi ro,zi rr]) (hp:(vp=A.vpairs s∧r.pairs=(σ.c s).r.pairs)∨(vp=.slice none 0 0∧r.pairs=[])):
 Calls Tryz.prog 120 #[.pointer (some ⟨A.be,0,none⟩),.pointer (some ⟨A.bt s,0,none⟩),.pointer (some ⟨A.bc s,0,none⟩),lv,.agg #[zi re,zi rv,vp,zi ro,zi rr]] w (Tells A w s (σ,.turns l r)):=by
 have h:=turns_any hR s l lv hl r vp hp;simp only[resCs,List.cons.injEq,Value.int.injEq,true_and,and_true] at hcs;obtain⟨e1,e2,e3,e4⟩:=hcs;rw[e1,e2,e3,e4] at h;exact h
def KeysOk (σ:St) (t:Txn):Prop:=∀ key∈t.keys,∃ x,t.cell key=some x∧(x.own=0∨VL σ x.own)∧(x.old=0∨VL σ x.old)
def cTurn (t:Txn) (key:Nat):List Trn:=
 (if ((t.cell key).getD default).own≠0 then ⟨wslot ((t.cell key).getD default).own 0,0,t.end_⟩::(if ((t.cell key).getD default).there then [] else [⟨wslot ((t.cell key).getD default).own 1,0,t.end_⟩]) else [])
 ++(if ((t.cell key).getD default).old≠0 then [⟨wslot ((t.cell key).getD default).old 1,0,t.end_⟩] else [])
theorem commitTurns_eq (σ:St) (t:Txn):commitTurns σ t=t.keys.flatMap (cTurn t):=rfl
theorem flat_snoc (f:Nat→List Trn) (l:List Nat) (k:Nat) (h:k<l.length):(l.take (k+1)).flatMap f=(l.take k).flatMap f++f (l.getD k 0):=by
 rw[List.take_succ_eq_append_getElem h,List.flatMap_append];simp[List.getD,h]
theorem cTurn_length (t:Txn) (key:Nat):(cTurn t key).length≤3:=by
 unfold cTurn
 repeat' split
 all_goals simp
theorem flat_length (f:Nat→List Trn) (hf:∀ k,(f k).length≤3) (l:List Nat):(l.flatMap f).length≤3*l.length:=by
 induction l with
 |nil=>simp
 |cons x l ih=>simp only[List.flatMap_cons,List.length_append,List.length_cons];have:=hf x;omega
theorem help_txns (σ:St) (x:Nat):(σ.help x).txns=σ.txns:=by unfold St.help St.cas;split<;>rfl
theorem help_calls (σ:St) (x:Nat):(σ.help x).calls=σ.calls:=by unfold St.help St.cas;split<;>rfl
theorem k_helpJ (hR:Rep A σ w) (s:Nat) (t:Txn) (ht:σ.txns.getD s none=some t) (hen:t.end_<281474976710656) (hid:t.id≤2000) (hrl:t.reads.length<1000000) (hcnt:σ.count<4000000000000000000) (b0 b1 b2:Nat)
 (B0:Box A.L w b0 (.pointer (some ⟨A.be,0,none⟩))) (B1:Box A.L w b1 (.pointer (some ⟨A.bt s,0,none⟩))) (B2:Box A.L w b2 (.pointer (some ⟨A.bc s,0,none⟩))):
 Calls Tryz.prog 113 #[.pointer (some ⟨b0,0,none⟩),.pointer (some ⟨b1,0,none⟩),.pointer (some ⟨b2,0,none⟩)] w (Ran A w s (σ.run s .helpJ)):=by
 have c0:=B0.cell;have c1:=B1.cell;have t4:w.cell? ⟨A.bt s,4,none⟩=some (zu (t.end_:Int)):=hR.txn ht 4 rfl;have t0:w.cell? ⟨A.bt s,0,none⟩=some (zi (t.id:Int)):=hR.txn ht 0 rfl;have HC:=zH (flip (clock_any t.end_ t.id hen (by omega) w.drew));have hlo:lastOf (clockW t.end_ t.id)=t.id:=by unfold lastOf clockW;omega
 have HL:=zH (help_any hR.drew (clockW t.end_ t.id) (by unfold clockW;omega) (by omega) hcnt);have HG:=zG A.L w;have hrun:σ.run s .helpJ=(σ.help (clockW t.end_ t.id),some (judgeK t 0)):=by
  have e:(σ.help (clockW t.end_ t.id)).t s=t:=by unfold St.t;rw[help_txns,ht];rfl
  simp only[St.run,txn_get ht,e]
 rw[hrun];have HB:Hid (∀ w1,Rep A (σ.help (clockW t.end_ t.id)) w1→Grow A.L w A.L w1→Calls Tryz.prog 114 #[.pointer (some ⟨A.be,0,none⟩),.pointer (some ⟨A.bt s,0,none⟩),.pointer (some ⟨A.bc s,0,none⟩),zi 0] w1 (Tells A w1 s (σ.help (clockW t.end_ t.id),judgeK t 0))∧w1.cell? ⟨b0,0,none⟩=some (.pointer (some ⟨A.be,0,none⟩))∧w1.cell? ⟨b1,0,none⟩=some (.pointer (some ⟨A.bt s,0,none⟩))∧w1.cell? ⟨b2,0,none⟩=some (.pointer (some ⟨A.bc s,0,none⟩))):=
  fun w1 q g=>⟨judge_any q s t (by rw[help_txns];exact ht) 0 (Nat.zero_le _) hrl,(B0.grow g).cell,(B1.grow g).cell,(B2.grow g).cell⟩
 clear hR ht hen hid hrl hcnt B0 B1 B2 hrun hlo;generalize σ.help (clockW t.end_ t.id)=σ1 at*;generalize judgeK t 0=k at*;go_enter Tryz.func113,Tryz.ntmps113;go_wp2_with fail;refine wp_region_still_tail 10 (by kernel_rfl) (by kernel_rfl) ?_;simp only[zta,ztb,ztc,ztd]
 repeat still_step
 still_call HC.out
 refine wpStill_nil ?_;change wpList _ _ _ _ _ w.drew;generalize w.drew=wd at*;go_wp2_with (first|(go_at_call 59;refine HL.out.mono ?_;rintro e w1 ⟨rfl,q1,q2⟩;have g1:=HG.out.trans q2;obtain⟨hf,d0,d1,d2⟩:=HB.out w1 q1 g1;have HQ:=zH (zA hf g1);clear q1 q2 g1 hf)|(go_at_call 114;refine HQ.out.1.mono ?_;rintro e w2 ⟨A2,v,rfl,p1,p2,p3,p4⟩));go_ret;exact⟨A2,v,rfl,p1,HQ.out.2.trans p2,p3,p4⟩
set_option maxHeartbeats 16000000 in
theorem k_commit (hR:Rep A σ w) (s:Nat) (t:Txn) (ht:σ.txns.getD s none=some t) (hm:A.mt s=0) (hen:t.end_≤1099511627776) (hid:t.id≤2000) (hkl:t.keys.length<1000000) (hK:KeysOk σ t) (htl:σ.tale.length<1000000) (hcnt:σ.count<4000000000000000000) (b0 b1 b2:Nat)
 (B0:Box A.L w b0 (.pointer (some ⟨A.be,0,none⟩))) (B1:Box A.L w b1 (.pointer (some ⟨A.bt s,0,none⟩))) (B2:Box A.L w b2 (.pointer (some ⟨A.bc s,0,none⟩))):
 Calls Tryz.prog 174 #[.pointer (some ⟨b0,0,none⟩),.pointer (some ⟨b1,0,none⟩),.pointer (some ⟨b2,0,none⟩)] w (Ran A w s (σ.run s .commit)):=by
 have c0:=B0.cell;have c1:=B1.cell;have e2:=hR.z2;have t4:w.cell? ⟨A.bt s,4,none⟩=some (zu (t.end_:Int)):=hR.txn ht 4 rfl;have t0:w.cell? ⟨A.bt s,0,none⟩=some (zi (t.id:Int)):=hR.txn ht 0 rfl;have HP:=zH (place_still hR.drew t.id (by omega));have HA:=zH (pack_still 3 (t.end_:Int) 3 t.end_ rfl rfl (by omega) (by omega) w.drew);have HL:=zH (store_any hR.drew (σ.place t.id) (pack 3 t.end_) (by rw[hR.nw];unfold St.place;omega) hcnt);have HG:=zG A.L w;obtain⟨σ2,hσ2⟩:∃ σ2,σ2=(σ.put (σ.place t.id) (pack 3 t.end_)).tellEnd s {kind:=5,t:=t.id}:=⟨_,rfl⟩
 have hrun:σ.run s .commit=(σ2,some (.turns (t.keys.flatMap (cTurn t)) {over:=3})):=by
  rw[hσ2,←commitTurns_eq (σ.put (σ.place t.id) (pack 3 t.end_)) t];simp only[St.run,txn_get ht];rfl
 rw[hrun];obtain⟨t2,ht2,hk2,hc2,hen2⟩:∃ t2,σ2.txns.getD s none=some t2∧t2.keys=t.keys∧t2.cells=t.cells∧t2.end_=t.end_:=by
  have ht1:(σ.put (σ.place t.id) (pack 3 t.end_)).txns.getD s none=some t:=ht;rw[hσ2];unfold St.tellEnd;rw[txn_get ht1]
  by_cases ho:t.over=true
  · rw[if_pos ho];exact⟨t,ht1,rfl,rfl,rfl⟩
  · rw[if_neg ho]
    refine⟨{t with over:=true},?_,rfl,rfl,rfl⟩;show ((σ.put (σ.place t.id) (pack 3 t.end_)).setT s {t with over:=true}).txns.getD s none=_;rw[getT_set (lt_of_txn ht1),if_pos rfl]
 have hsl2:σ2.slots=σ.slots:=by rw[hσ2];unfold St.tellEnd;split<;>rfl
 have HB1:Hid (∀ w1,Rep A (σ.put (σ.place t.id) (pack 3 t.end_)) w1→Grow A.L w A.L w1→Calls Tryz.prog 117 #[.pointer (some ⟨A.be,0,none⟩),.pointer (some ⟨A.bt s,0,none⟩),.agg #[zi 5,zi (t.id:Int),zu 0,zi 0,zi 0,zi 0,zi 0,zi 0,zi 0,.slice none 0 0,zi 0,zi 0]] w1.drew (Told A w1.drew s σ2)∧w1.cell? ⟨b0,0,none⟩=some (.pointer (some ⟨A.be,0,none⟩))∧w1.cell? ⟨b1,0,none⟩=some (.pointer (some ⟨A.bt s,0,none⟩))∧w1.cell? ⟨A.bt s,0,none⟩=some (zi (t.id:Int))):=by
  intro w1 q g;rw[hσ2];exact⟨tell_any q.drew s t ht hm _ 5 t.id 0 rfl rfl htl,(B0.grow g).cell,(B1.grow g).cell,q.txn ht 0 rfl⟩
 have HB2 : Hid (∀ A2 w2, Rep A2 σ2 w2 → Grow A.L w A2.L w2 → Stay A A2 s → A2.bx = A.bx → ∀ w3, Below w2.heap.size w2 w3 → w3.cell? ⟨b0, 0, none⟩ = some (.pointer (some ⟨A.be, 0, none⟩)) ∧ w3.cell? ⟨b1, 0, none⟩ = some (.pointer (some ⟨A.bt s, 0, none⟩)) ∧ w3.cell? ⟨b2, 0, none⟩ = some (.pointer (some ⟨A.bc s, 0, none⟩)) ∧ w3.cell? ⟨A.bt s, 4, none⟩ = some (zu (t.end_ : Int)) ∧ w3.cell? ⟨A.bt s, 7, none⟩ = some (.map (some (A.bm s))) ∧ w3.cell? ⟨A.bt s, 6, none⟩ = some (A2.vkeys s) ∧
     (∃ av cap,A2.vkeys s=.slice av t.keys.length cap)∧(∀ k,k<t.keys.length→∀ g cap,A2.vkeys s=.slice (some ⟨g,0,none⟩) t.keys.length cap→w3.cell? ⟨g,k,none⟩=some (zi (t.keys.getD k 0:Int)))∧(∀ k,k<t.keys.length→∃ g cap,A2.vkeys s=.slice (some ⟨g,0,none⟩) t.keys.length cap)∧
     (∀ key x,t.cell key=some x→(Instr.lookup 105 (.map (some (A.bm s))) (zi (key:Int)) false).run Tryz.prog w3=.ok (.pointer (some ⟨A.bx s key,0,none⟩)) w3∧w3.cell? ⟨A.bx s key,0,none⟩=some (zu (x.own:Int))∧w3.cell? ⟨A.bx s key,1,none⟩=some (zu (x.old:Int))∧w3.cell? ⟨A.bx s key,2,none⟩=some (.bool x.there))):=by
  intro A2 w2 q g st hbx w3 hb;have r3:=q.below hb;have gg:=g.trans (Grow.below (L:=A2.L) hb);have a4:=r3.txn ht2 4 (v:=zu (t2.end_:Int)) rfl;have a7:=r3.txn ht2 7 (v:=.map (some (A2.bm s))) rfl;have a6:=r3.txn ht2 6 (v:=A2.vkeys s) rfl;rw[st.bt] at a4 a7 a6;rw[st.bm] at a7;rw[hen2] at a4;have hown:=r3.mem.all (.keys s);rw[mem_keys ht2,hk2] at hown;obtain⟨av,cap,hv,_⟩:=Ow.own_form hown.1;have hget:∀ k,k<t.keys.length→(t.keys.map i64)[k]? =some (i64 (t.keys.getD k 0)):=fun k hk=>by simp[List.getD,hk]
  refine⟨(B0.grow gg).cell,(B1.grow gg).cell,(B2.grow gg).cell,a4,a7,a6,⟨av,cap,hv⟩,fun k hk g' cap' hv'=>?_,fun k hk=>?_,fun key x hx=>?_⟩
  · obtain⟨g1,cap1,hv1,hc1⟩:=own_at hown.1 (hget k hk)
    rw[hv'] at hv1;obtain⟨rfl,_⟩:g'=g1∧cap'=cap1:=by simpa using hv1
    exact hc1
  · obtain⟨g1,cap1,hv1,hc1⟩:=own_at hown.1 (hget k hk)
    exact⟨g1,cap1,hv1⟩
  · have hx2:t2.cell key=some x:=by unfold Txn.cell at hx ⊢;rw[hc2];exact hx
    have hl:=lookup_run r3 ht2 key;have hpx:A2.px s t2 key=.pointer (some ⟨A2.bx s key,0,none⟩):=by unfold Book.px;rw[hx2];rfl
    rw[hpx,hbx,st.bm] at hl;obtain⟨x0,x1,x2⟩:=r3.cel ht2 hx2;rw[hbx] at x0 x1 x2;exact⟨hl,x0,x1,x2⟩
 have HT:=zH (Word.time_yes (t.end_:Int) (by omega) (by omega));have HTU:Hid (∀ A2 w2,Rep A2 σ2 w2→Stay A A2 s→∀ w3 av m cap,Below w2.heap.size w2 w3→w3.ownsRow w2.heap.size 223 3 (.slice av m cap) m (trnCs (t.keys.flatMap (cTurn t)))→Calls Tryz.prog 120 #[.pointer (some ⟨A.be,0,none⟩),.pointer (some ⟨A.bt s,0,none⟩),.pointer (some ⟨A.bc s,0,none⟩),.slice av m cap,.agg #[zi 0,zi 0,.slice none 0 0,zi 3,zi 0]] w3 (Tells A2 w3 s (σ2,.turns (t.keys.flatMap (cTurn t)) {over:=3}))):=by
  intro A2 w2 q st w3 av m cap hb ho;have h:=turns_at (q.below hb) s (t.keys.flatMap (cTurn t)) (.slice av m cap) (frow_of_own ho q.mem.fresh) {over:=3} 0 0 3 0 (.slice none 0 0) rfl (.inr ⟨rfl,rfl⟩);rw[st.be,st.bt,st.bc] at h;exact h
 have HS:Hid (∀ (l n:Nat),VL σ l→n≤2→∀ w,Calls Tryz.prog 72 #[zu (l:Int),zi (n:Int)] w fun e w'=>e=.returned (zi ((wslot l n:Nat):Int))∧w=w'):=fun l n hv hn w'=>slot_any l n hv.lo (by have:=hv.hi;have:=hR.sl;omega) hv.u hn w'
 have HKK:=zH (zA hK hkl);clear hR ht hm hen hid hkl hK htl hcnt B0 B1 B2 hrun hσ2 ht2 hk2 hc2 hen2 hsl2;go_enter Tryz.func174,Tryz.ntmps174;go_wp2_with fail;refine wp_region_still_tail 15 (by kernel_rfl) (by kernel_rfl) ?_;simp only[zta,ztb,ztc,ztd]
 repeat still_step
 still_call HP.out
 repeat still_step
 still_call HA.out
 refine wpStill_nil ?_;change wpList _ _ _ _ _ w.drew;generalize w.drew=wd at*;go_wp2_with (go_at_call 62;refine HL.out.mono ?_;rintro e w1 ⟨rfl,q1,q2⟩;have g1:=HG.out.trans q2;obtain⟨hf,d0,d1,d2⟩:=HB1.out w1 q1 g1;have HQ:=zH (zA hf (g1.trans (Grow.drew _ _)));clear q1 q2 g1 hf);refine wp_region_still_tail 7 (by kernel_rfl) (by kernel_rfl) ?_;simp only[zta,ztb,ztc,ztd]
 repeat still_step
 refine wpStill_nil ?_;change wpList _ _ _ _ _ w1.drew;generalize w1.drew=wd1 at*;go_wp2_with (first|(go_at_call 117;refine HQ.out.1.mono ?_;rintro e w2 ⟨rfl,A2,q1,q2,q3,q4,q5⟩;obtain⟨y0,y1,y2,y4,y7,y6,⟨kv,kc,hkv⟩,_,_,_⟩:=HB2.out A2 w2 q1 (HQ.out.2.trans q2) q3 q4 w2 (Below.refl _ _);rw[hkv] at y6;have H2:=zH (zA q1 (zA (HQ.out.2.trans q2) (zA q3 (zA q4 hkv))));clear q1 q2 q3 q4 q5 hkv)|(go_at_call 175;refine (HT.out _).mono ?_;rintro e w3 ⟨rfl,rfl⟩))
 go_loopw [6,47] (fun l i wr=>∃ k:Nat,k≤t.keys.length∧i=zi (k:Int)∧Below w2.heap.size w2 wr∧∃ av cap,l=.slice av ((t.keys.take k).flatMap (cTurn t)).length cap∧wr.ownsRow w2.heap.size 223 3 l ((t.keys.take k).flatMap (cTurn t)).length (trnCs ((t.keys.take k).flatMap (cTurn t)))) (fun _ i _=>t.keys.length - (intOf i).toNat)
 case atStart=>
  exact⟨0,Nat.zero_le _,rfl,Below.refl _ _,none,0,rfl,rfl,.inl ⟨rfl,rfl⟩⟩
 case round=>
  obtain⟨k,hk,rfl,hb,av,cap,rfl,hown⟩:=hrel;have hm0:=flat_length (cTurn t) (cTurn_length t) (t.keys.take k)
  by_cases hlt:k<t.keys.length
  · obtain⟨x0,x1,x2,x4,x7,x6,_,hget,hform,hcel⟩:=HB2.out A2 w2 H2.out.1 H2.out.2.1 H2.out.2.2.1 H2.out.2.2.2.1 wr hb
    obtain⟨g,cap',hv⟩:=hform k hlt;obtain⟨rfl,rfl⟩:kv=some ⟨g,0,none⟩∧kc=cap':=by have:=H2.out.2.2.2.2.symm.trans hv;simpa using this
    have hke:=hget k hlt g kc hv;obtain⟨x,hx,ho1,ho2⟩:=HKK.out.1 (t.keys.getD k 0) (by simp[List.getD,hlt]);obtain⟨hlk,ce0,ce1,ce2⟩:=hcel _ x hx;have hfs:=flat_snoc (cTurn t) t.keys k hlt;have hcT:cTurn t (t.keys.getD k 0)=(if x.own≠0 then ⟨wslot x.own 0,0,t.end_⟩::(if x.there then [] else [⟨wslot x.own 1,0,t.end_⟩]) else [])++(if x.old≠0 then [⟨wslot x.old 1,0,t.end_⟩] else []):=by unfold cTurn;rw[hx];rfl
    rw[hcT] at hfs;have hlen:(t.keys.take k).length≤1000000:=by have:=HKK.out.2;simp;omega
    have HC:Hid (∀ w',Below w2.heap.size w2 w'→w'.cell? ⟨A.bx s (t.keys.getD k 0),0,none⟩=some (zu (x.own:Int))∧w'.cell? ⟨A.bx s (t.keys.getD k 0),1,none⟩=some (zu (x.old:Int))∧w'.cell? ⟨A.bx s (t.keys.getD k 0),2,none⟩=some (.bool x.there)):=fun w' hb'=>by
     obtain⟨_,_,_,_,_,_,_,_,_,hcel'⟩:=HB2.out A2 w2 H2.out.1 H2.out.2.1 H2.out.2.2.1 H2.out.2.2.2.1 w' hb';exact (hcel' _ x hx).2
    have HO:=zH (zA ho1 (zA ho2 (zA hlt hfs)));have nb1:(k:Int)<(t.keys.length:Int):=by omega
    have n1:IntKind.i64.wrap ((k:Int)+1)=(k:Int)+1:=by rw[IntKind.wrap_i64];have:=HKK.out.2;omega
    clear x0 x2 y0 y1 y2 y4 y7 y6 hget hform hcel hv ho1 ho2 hcT hx;generalize t.keys.getD k 0=key at*;generalize hxs:trnCs ((t.keys.take k).flatMap (cTurn t))=xs at*;have HXS:=zH hxs;clear hxs;generalize hmm:((t.keys.take k).flatMap (cTurn t)).length=m at*;have HM:=zH hmm;clear hmm hfs;have hm1:m<3000001:=by omega
    clear hm0 hlen hk;generalize A.bx s key=bx at*
    by_cases ho:x.own≠0
    · have ho':x.own≠0:=ho
      have d1:((x.own:Int)==0)=false:=by simp;omega
      have d2:((x.own:Int) !=0)=true:=by simp;omega
      have d3:((x.own:Int)=0)=False:=by simp;omega
      clear ho'
      cases ht:x.there with
      |true=>
       by_cases hl:x.old≠0
       · have e1:((x.old:Int)==0)=false:=by simp;omega
         have e2:((x.old:Int) !=0)=true:=by simp;omega
         have e3:((x.old:Int)=0)=False:=by simp;omega
         have hfs:=HO.out.2.2.2;simp only[if_pos ho,if_pos hl,ht,if_true,if_false,Bool.false_eq_true,List.nil_append,List.append_nil,List.cons_append] at hfs;have HFS:=zH hfs;clear hfs;obtain⟨ws,W0,W1,W2⟩:∃ ws:Int→Int→Int,ws (x.own:Int) 0=((wslot x.own 0:Nat):Int)∧ws (x.own:Int) 1=((wslot x.own 1:Nat):Int)∧ws (x.old:Int) 1=((wslot x.old 1:Nat):Int):=⟨fun a b=>if b=0 then ((wslot a.toNat 0:Nat):Int) else ((wslot a.toNat 1:Nat):Int),by simp,by simp,by simp⟩
         have SL:Hid (∀ a b:Int,((a=(x.own:Int)∧b=0)∨(a=(x.own:Int)∧b=1)∨(a=(x.old:Int)∧b=1))→∀ w,Calls Tryz.prog 72 #[zu a,zi b] w fun e w'=>e=.returned (zi (ws a b))∧w=w'):=by
          rintro a b (⟨rfl,rfl⟩|⟨rfl,rfl⟩|⟨rfl,rfl⟩) w''
          · rw[W0];exact (HS.out x.own 0 (HO.out.1.resolve_left ho) (by omega) w'')
          · rw[W1];exact (HS.out x.own 1 (HO.out.1.resolve_left ho) (by omega) w'')
          · rw[W2];exact (HS.out x.old 1 (HO.out.2.1.resolve_left hl) (by omega) w'')
         have HW:=zH (zA W0 (zA W1 W2));clear W0 W1 W2;clear ho hl;rw[ht] at ce2 HC;clear ht;go_wp2_with (first|(go_at_call 72;refine (SL.out _ _ (by first|exact .inl ⟨rfl,rfl⟩|exact .inr (.inl ⟨rfl,rfl⟩)|exact .inr (.inr ⟨rfl,rfl⟩)) _).mono ?_;rintro e w' ⟨rfl,rfl⟩)|(refine wp_turn _ rfl _ _ rfl w2 (by assumption) _ _ _ _ rfl (by assumption) (by omega) _ _ _ rfl ?_;intro avl capl wl ql pl;obtain⟨ce0,ce1,ce2⟩:=HC.out wl pl))
         go_roundw
         case rel=>
          simp only[HW.out.1,HW.out.2.1,HW.out.2.2] at ql;refine⟨k+1,by have:=HO.out.2.2.1;omega,rfl,pl,avl,capl,?_,?_⟩
          · first|(rw[HFS.out,List.length_append,HM.out];done)|(rw[HFS.out,List.length_append,HM.out];rfl)
          · rw[HFS.out,List.length_append,HM.out,trnCs_append,HXS.out];simp only[List.append_assoc,List.cons_append,List.nil_append] at ql;exact ql
         case measure=>have:=HO.out.2.2.1;simp[intOf];omega
       · have e1:((x.old:Int)==0)=true:=by simp;omega
         have e2:((x.old:Int) !=0)=false:=by simp;omega
         have e3:((x.old:Int)=0)=True:=by simp;omega
         have hfs:=HO.out.2.2.2;simp only[if_pos ho,if_neg hl,ht,if_true,if_false,Bool.false_eq_true,List.nil_append,List.append_nil,List.cons_append] at hfs;have HFS:=zH hfs;clear hfs;obtain⟨ws,W0,W1,W2⟩:∃ ws:Int→Int→Int,ws (x.own:Int) 0=((wslot x.own 0:Nat):Int)∧ws (x.own:Int) 1=((wslot x.own 1:Nat):Int)∧ws (x.old:Int) 1=((wslot x.old 1:Nat):Int):=⟨fun a b=>if b=0 then ((wslot a.toNat 0:Nat):Int) else ((wslot a.toNat 1:Nat):Int),by simp,by simp,by simp⟩
         have SL:Hid (∀ a b:Int,((a=(x.own:Int)∧b=0)∨(a=(x.own:Int)∧b=1)∨False)→∀ w,Calls Tryz.prog 72 #[zu a,zi b] w fun e w'=>e=.returned (zi (ws a b))∧w=w'):=by
          rintro a b (⟨rfl,rfl⟩|⟨rfl,rfl⟩|h) w''
          · rw[W0];exact (HS.out x.own 0 (HO.out.1.resolve_left ho) (by omega) w'')
          · rw[W1];exact (HS.out x.own 1 (HO.out.1.resolve_left ho) (by omega) w'')
          · exact h.elim
         have HW:=zH (zA W0 (zA W1 W2));clear W0 W1 W2;clear ho hl;rw[ht] at ce2 HC;clear ht;go_wp2_with (first|(go_at_call 72;refine (SL.out _ _ (by first|exact .inl ⟨rfl,rfl⟩|exact .inr (.inl ⟨rfl,rfl⟩)|exact .inr (.inr ⟨rfl,rfl⟩)) _).mono ?_;rintro e w' ⟨rfl,rfl⟩)|(refine wp_turn _ rfl _ _ rfl w2 (by assumption) _ _ _ _ rfl (by assumption) (by omega) _ _ _ rfl ?_;intro avl capl wl ql pl;obtain⟨ce0,ce1,ce2⟩:=HC.out wl pl))
         go_roundw
         case rel=>
          simp only[HW.out.1,HW.out.2.1,HW.out.2.2] at ql;refine⟨k+1,by have:=HO.out.2.2.1;omega,rfl,pl,avl,capl,?_,?_⟩
          · first|(rw[HFS.out,List.length_append,HM.out];done)|(rw[HFS.out,List.length_append,HM.out];rfl)
          · rw[HFS.out,List.length_append,HM.out,trnCs_append,HXS.out];exact ql
         case measure=>have:=HO.out.2.2.1;simp[intOf];omega
          |false=>
       by_cases hl:x.old≠0
       · have e1:((x.old:Int)==0)=false:=by simp;omega
         have e2:((x.old:Int) !=0)=true:=by simp;omega
         have e3:((x.old:Int)=0)=False:=by simp;omega
         have hfs:=HO.out.2.2.2;simp only[if_pos ho,if_pos hl,ht,if_true,if_false,Bool.false_eq_true,List.nil_append,List.append_nil,List.cons_append] at hfs;have HFS:=zH hfs;clear hfs;obtain⟨ws,W0,W1,W2⟩:∃ ws:Int→Int→Int,ws (x.own:Int) 0=((wslot x.own 0:Nat):Int)∧ws (x.own:Int) 1=((wslot x.own 1:Nat):Int)∧ws (x.old:Int) 1=((wslot x.old 1:Nat):Int):=⟨fun a b=>if b=0 then ((wslot a.toNat 0:Nat):Int) else ((wslot a.toNat 1:Nat):Int),by simp,by simp,by simp⟩
         have SL:Hid (∀ a b:Int,((a=(x.own:Int)∧b=0)∨(a=(x.own:Int)∧b=1)∨(a=(x.old:Int)∧b=1))→∀ w,Calls Tryz.prog 72 #[zu a,zi b] w fun e w'=>e=.returned (zi (ws a b))∧w=w'):=by
          rintro a b (⟨rfl,rfl⟩|⟨rfl,rfl⟩|⟨rfl,rfl⟩) w''
          · rw[W0];exact (HS.out x.own 0 (HO.out.1.resolve_left ho) (by omega) w'')
          · rw[W1];exact (HS.out x.own 1 (HO.out.1.resolve_left ho) (by omega) w'')
          · rw[W2];exact (HS.out x.old 1 (HO.out.2.1.resolve_left hl) (by omega) w'')
         have HW:=zH (zA W0 (zA W1 W2));clear W0 W1 W2;clear ho hl;rw[ht] at ce2 HC;clear ht;go_wp2_with (first|(go_at_call 72;refine (SL.out _ _ (by first|exact .inl ⟨rfl,rfl⟩|exact .inr (.inl ⟨rfl,rfl⟩)|exact .inr (.inr ⟨rfl,rfl⟩)) _).mono ?_;rintro e w' ⟨rfl,rfl⟩)|(refine wp_turn _ rfl _ _ rfl w2 (by assumption) _ _ _ _ rfl (by assumption) (by omega) _ _ _ rfl ?_;intro avl capl wl ql pl;obtain⟨ce0,ce1,ce2⟩:=HC.out wl pl))
         go_roundw
         case rel=>
          simp only[HW.out.1,HW.out.2.1,HW.out.2.2] at ql;refine⟨k+1,by have:=HO.out.2.2.1;omega,rfl,pl,avl,capl,?_,?_⟩
          · first|(rw[HFS.out,List.length_append,HM.out];done)|(rw[HFS.out,List.length_append,HM.out];rfl)
          · rw[HFS.out,List.length_append,HM.out,trnCs_append,HXS.out];simp only[List.append_assoc,List.cons_append,List.nil_append] at ql;exact ql
         case measure=>have:=HO.out.2.2.1;simp[intOf];omega
       · have e1:((x.old:Int)==0)=true:=by simp;omega
         have e2:((x.old:Int) !=0)=false:=by simp;omega
         have e3:((x.old:Int)=0)=True:=by simp;omega
         have hfs:=HO.out.2.2.2;simp only[if_pos ho,if_neg hl,ht,if_true,if_false,Bool.false_eq_true,List.nil_append,List.append_nil,List.cons_append] at hfs;have HFS:=zH hfs;clear hfs;obtain⟨ws,W0,W1,W2⟩:∃ ws:Int→Int→Int,ws (x.own:Int) 0=((wslot x.own 0:Nat):Int)∧ws (x.own:Int) 1=((wslot x.own 1:Nat):Int)∧ws (x.old:Int) 1=((wslot x.old 1:Nat):Int):=⟨fun a b=>if b=0 then ((wslot a.toNat 0:Nat):Int) else ((wslot a.toNat 1:Nat):Int),by simp,by simp,by simp⟩
         have SL:Hid (∀ a b:Int,((a=(x.own:Int)∧b=0)∨(a=(x.own:Int)∧b=1)∨False)→∀ w,Calls Tryz.prog 72 #[zu a,zi b] w fun e w'=>e=.returned (zi (ws a b))∧w=w'):=by
          rintro a b (⟨rfl,rfl⟩|⟨rfl,rfl⟩|h) w''
          · rw[W0];exact (HS.out x.own 0 (HO.out.1.resolve_left ho) (by omega) w'')
          · rw[W1];exact (HS.out x.own 1 (HO.out.1.resolve_left ho) (by omega) w'')
          · exact h.elim
         have HW:=zH (zA W0 (zA W1 W2));clear W0 W1 W2;clear ho hl;rw[ht] at ce2 HC;clear ht;go_wp2_with (first|(go_at_call 72;refine (SL.out _ _ (by first|exact .inl ⟨rfl,rfl⟩|exact .inr (.inl ⟨rfl,rfl⟩)|exact .inr (.inr ⟨rfl,rfl⟩)) _).mono ?_;rintro e w' ⟨rfl,rfl⟩)|(refine wp_turn _ rfl _ _ rfl w2 (by assumption) _ _ _ _ rfl (by assumption) (by omega) _ _ _ rfl ?_;intro avl capl wl ql pl;obtain⟨ce0,ce1,ce2⟩:=HC.out wl pl))
         go_roundw
         case rel=>
          simp only[HW.out.1,HW.out.2.1,HW.out.2.2] at ql;refine⟨k+1,by have:=HO.out.2.2.1;omega,rfl,pl,avl,capl,?_,?_⟩
          · first|(rw[HFS.out,List.length_append,HM.out];done)|(rw[HFS.out,List.length_append,HM.out];rfl)
          · rw[HFS.out,List.length_append,HM.out,trnCs_append,HXS.out];simp only[List.append_assoc,List.cons_append,List.nil_append] at ql;exact ql
         case measure=>have:=HO.out.2.2.1;simp[intOf];omega
    · have d1:((x.own:Int)==0)=true:=by simp;omega
      have d2:((x.own:Int) !=0)=false:=by simp;omega
      have d3:((x.own:Int)=0)=True:=by simp;omega
      by_cases hl:x.old≠0
      · have e1:((x.old:Int)==0)=false:=by simp;omega
        have e2:((x.old:Int) !=0)=true:=by simp;omega
        have e3:((x.old:Int)=0)=False:=by simp;omega
        have hfs:=HO.out.2.2.2;simp only[if_neg ho,if_pos hl,List.nil_append,List.append_nil,List.cons_append] at hfs;have HFS:=zH hfs;clear hfs;obtain⟨ws,W0,W1,W2⟩:∃ ws:Int→Int→Int,ws (x.own:Int) 0=((wslot x.own 0:Nat):Int)∧ws (x.own:Int) 1=((wslot x.own 1:Nat):Int)∧ws (x.old:Int) 1=((wslot x.old 1:Nat):Int):=⟨fun a b=>if b=0 then ((wslot a.toNat 0:Nat):Int) else ((wslot a.toNat 1:Nat):Int),by simp,by simp,by simp⟩
        have SL:Hid (∀ a b:Int,(False∨False∨(a=(x.old:Int)∧b=1))→∀ w,Calls Tryz.prog 72 #[zu a,zi b] w fun e w'=>e=.returned (zi (ws a b))∧w=w'):=by
         rintro a b (h|h|⟨rfl,rfl⟩) w''
         · exact h.elim
         · exact h.elim
         · rw[W2];exact (HS.out x.old 1 (HO.out.2.1.resolve_left hl) (by omega) w'')
        have HW:=zH (zA W0 (zA W1 W2));clear W0 W1 W2;clear ho hl;go_wp2_with (first|(go_at_call 72;refine (SL.out _ _ (by first|exact .inl ⟨rfl,rfl⟩|exact .inr (.inl ⟨rfl,rfl⟩)|exact .inr (.inr ⟨rfl,rfl⟩)) _).mono ?_;rintro e w' ⟨rfl,rfl⟩)|(refine wp_turn _ rfl _ _ rfl w2 (by assumption) _ _ _ _ rfl (by assumption) (by omega) _ _ _ rfl ?_;intro avl capl wl ql pl;obtain⟨ce0,ce1,ce2⟩:=HC.out wl pl))
        go_roundw
        case rel=>
         simp only[HW.out.1,HW.out.2.1,HW.out.2.2] at ql;refine⟨k+1,by have:=HO.out.2.2.1;omega,rfl,pl,avl,capl,?_,?_⟩
         · first|(rw[HFS.out,List.length_append,HM.out];done)|(rw[HFS.out,List.length_append,HM.out];rfl)
         · rw[HFS.out,List.length_append,HM.out,trnCs_append,HXS.out];exact ql
        case measure=>have:=HO.out.2.2.1;simp[intOf];omega
      · have e1:((x.old:Int)==0)=true:=by simp;omega
        have e2:((x.old:Int) !=0)=false:=by simp;omega
        have e3:((x.old:Int)=0)=True:=by simp;omega
        have hfs:=HO.out.2.2.2;simp only[if_neg ho,if_neg hl,List.nil_append,List.append_nil,List.cons_append] at hfs;have HFS:=zH hfs;clear hfs;clear ho hl;go_wp2_with fail
        go_roundw
        case rel=>
         refine⟨k+1,by have:=HO.out.2.2.1;omega,rfl,hb,av,cap,?_,?_⟩
         · first|(rw[HFS.out,HM.out];done)|(rw[HFS.out,HM.out];rfl)
         · rw[HFS.out,HM.out,HXS.out];exact hown
        case measure=>have:=HO.out.2.2.1;simp[intOf];omega
  · obtain rfl:k=t.keys.length:=by omega
    rw[List.take_length] at hown ⊢;obtain⟨x0,x1,x2,x4,x7,x6,_⟩:=HB2.out A2 w2 H2.out.1 H2.out.2.1 H2.out.2.2.1 H2.out.2.2.2.1 wr hb;have HE:=zH (zA (HTU.out A2 w2 H2.out.1 H2.out.2.2.1 wr av _ cap hb hown) (Grow.below (L:=A2.L) hb));clear hown hb hlt hk hm0;generalize (t.keys.flatMap (cTurn t)).length=m at*;go_wp2_with (go_at_call 120;refine HE.out.1.mono ?_;rintro e w4 ⟨A3,v,rfl,p1,p2,p3,p4⟩);go_ret;exact⟨A3,v,rfl,p1,(H2.out.2.1.trans HE.out.2).trans p2,H2.out.2.2.1.trans p3,p4⟩
end Go.Proofs.YtpkenfnmkpmapaaGreat.Em
