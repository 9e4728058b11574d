import Derived.Test.YtbefcdjcefmicaaGreatKq32
import Derived.Test.YtbefcdjcefmicaaGreatKq27
namespace Go.Proofs.YtbefcdjcefmicaaGreat.Em
open Go.ChangeShapes Go.WideShapes Go.ChangeAt Go.RowKit En
set_option linter.unusedVariables false
set_option linter.unusedSimpArgs false
set_option maxRecDepth 100000
set_option maxHeartbeats 1600000
def aTurn (t:Txn) (key:Nat):List Trn:=if ((t.cell key).getD default).old≠0 then [⟨wslot ((t.cell key).getD default).old 1,mine t,ever⟩] else []
theorem abortTurns_eq (σ:St) (t:Txn):abortTurns σ t=t.keys.flatMap (aTurn t):=rfl
theorem aTurn_length (t:Txn) (key:Nat):(aTurn t key).length≤3:=by
 unfold aTurn
 split
 all_goals simp
theorem wp_turn2 {o:Oper} {a:Act} {K:Act→World→Prop} {Q:Exit→Act→World→Prop} (w W:World) (s x:Operand)
 (ho:o.op=.call {callee:=.builtin .append,args:=#[s,x],argTypes:=#[211,211]})
 (w0:World) (hb:Below w0.heap.size w0 w) (av:Option Addr) (m cap:Nat) (xs:List Value) (hs:a.eval s=.slice av m cap) (hown:w.ownsRow w0.heap.size 213 3 (.slice av m cap) m xs) (hm:m<4000000)
 (t0 t1 t2:Int) (hW:W=(w.alloc (.cells #[zi t0,zu t1,zu t2] 213)).drew) (hx:a.eval x=.slice (some ⟨w.heap.size,0,none⟩) 1 1)
 (h:∀ av' cap' w',w'.ownsRow w0.heap.size 213 3 (.slice av' (m+1) cap') (m+1) (xs++[zi t0,zu t1,zu t2])→Below w0.heap.size w0 w'→K (a.put o.dst (.slice av' (m+1) cap')) w'):
 o.wp Tryz.prog a W K Q:=by
 subst hW;obtain⟨ii,hii,hz0,hz1,hz2⟩:=info_parts infoT;have hw:=hb.size;have hown':(w.alloc (.cells #[zi t0,zu t1,zu t2] 213)).drew.ownsRow w0.heap.size 213 3 (.slice av m cap) m xs:=own_same hown fun g hg=>Below.heap_alloc _ _ _ (hown.lt g hg).2
 refine Ow.wp_append_to _ s x 211 ho w0.heap.size 213 ii _ 3 24 Tryz.underlying211 hii hz0 hz1 hz2 rfl (by decide) (.slice av m cap) m xs hs hown' ⟨w.heap.size,0,none⟩ 1 1 (by omega) [zi t0,zu t1,zu t2] hx rfl (fun j u hu=>Ow.new_row w [zi t0,zu t1,zu t2] _ _ rfl j u hu) (by intro u hu;simp at hu;rcases hu with rfl|rfl|rfl<;>rfl) (by unfold maxLen;omega) (by omega) (by simp[World.drew];omega) ?_;intro v' w' q1 q2 q3;obtain⟨av',cap',rfl,_⟩:=Ow.own_form q1;exact h av' cap' w' q1 (((hb.alloc hw _).drew).grown q2 (by simp[World.drew];omega) (fun g hg=>(hown.lt g hg).1))
set_option maxHeartbeats 16000000 in
theorem k_abort {A:Book} {σ:St} {w:World} (hR:Rep A σ w) (s:Nat) (t:Txn) (ht:σ.txns.getD s none=some t) (hm:A.mt s=0) (er reason:Nat) (hen:t.end_≤1099511627776) (hi1:1≤t.id) (hid:t.id≤2000) (hkl:t.keys.length<1000000) (hK:KeysOk σ t) (htl:σ.tale.length<1000000) (hcnt:σ.count<4000000000000000000) (b0 b1 b2 b3 b4:Nat)
 (B0:Box A.L w b0 (.pointer (some ⟨A.be,0,none⟩))) (B1:Box A.L w b1 (.pointer (some ⟨A.bt s,0,none⟩))) (B2:Box A.L w b2 (zi (reason:Int))) (B3:Box A.L w b3 (.pointer (some ⟨A.bc s,0,none⟩))) (B4:Box A.L w b4 (zi (er:Int))):
 Calls Tryz.prog 118 #[.pointer (some ⟨b0,0,none⟩),.pointer (some ⟨b1,0,none⟩),.pointer (some ⟨b2,0,none⟩),.pointer (some ⟨b3,0,none⟩),.pointer (some ⟨b4,0,none⟩)] w (Ran A w s (σ.run s (.abort er reason))):=by
 have c0:=B0.cell;have c1:=B1.cell;have e2:w.cell? ⟨A.be,2,none⟩=some (.pointer (some ⟨A.ba,0,none⟩)):=hR.eng 2 rfl;have t4:w.cell? ⟨A.bt s,4,none⟩=some (zu (t.end_:Int)):=hR.txn ht 4 rfl;have t0:w.cell? ⟨A.bt s,0,none⟩=some (zi (t.id:Int)):=hR.txn ht 0 rfl;have HP:=zH (place_still hR.drew t.id (by omega));have HA:=zH (pack_still 4 (t.end_:Int) 4 t.end_ rfl rfl (by omega) (by omega) w.drew);have HL:=zH (store_any hR.drew (σ.place t.id) (pack 4 t.end_) (by rw[hR.nw];unfold St.place;omega) hcnt);have HG:Hid (Grow A.L w A.L w.drew):=Grow.drew _ _;obtain⟨σ2,hσ2⟩:∃ σ2,σ2=(σ.put (σ.place t.id) (pack 4 t.end_)).tellEnd s {kind:=6,t:=t.id,res:={reason:=reason}}:=⟨_,rfl⟩
 have hrun:σ.run s (.abort er reason)=(σ2,some (.turns (t.keys.flatMap (aTurn t)) {e:=er,over:=4,reason:=reason})):=by
  rw[hσ2,←abortTurns_eq (σ.put (σ.place t.id) (pack 4 t.end_)) t];simp only[St.run,txn_get ht];rfl
 rw[hrun];obtain⟨t2,ht2,hk2,hc2,hen2⟩:∃ t2,σ2.txns.getD s none=some t2∧t2.keys=t.keys∧t2.cells=t.cells∧t2.id=t.id:=by
  have ht1:(σ.put (σ.place t.id) (pack 4 t.end_)).txns.getD s none=some t:=ht;rw[hσ2];unfold St.tellEnd;rw[txn_get ht1]
  by_cases ho:t.over=true
  · rw[if_pos ho];exact⟨t,ht1,rfl,rfl,rfl⟩
  · rw[if_neg ho]
    refine⟨{t with over:=true},?_,rfl,rfl,rfl⟩;show ((σ.put (σ.place t.id) (pack 4 t.end_)).setT s {t with over:=true}).txns.getD s none=_;rw[getT_set (lt_of_txn ht1),if_pos rfl]
 have HB1:Hid (∀ w1,Rep A (σ.put (σ.place t.id) (pack 4 t.end_)) w1→Grow A.L w A.L w1→Calls Tryz.prog 119 #[.pointer (some ⟨A.be,0,none⟩),.pointer (some ⟨A.bt s,0,none⟩),.agg #[zi 6,zi (t.id:Int),zu 0,zi 0,zi 0,zi 0,zi 0,zi 0,zi 0,.slice none 0 0,zi 0,zi (reason:Int)]] w1.drew (Told A w1.drew s σ2)∧w1.cell? ⟨b0,0,none⟩=some (.pointer (some ⟨A.be,0,none⟩))∧w1.cell? ⟨b1,0,none⟩=some (.pointer (some ⟨A.bt s,0,none⟩))∧w1.cell? ⟨b2,0,none⟩=some (zi (reason:Int))∧w1.cell? ⟨A.bt s,0,none⟩=some (zi (t.id:Int))):=by
  intro w1 q g;rw[hσ2];exact⟨tell_any q.drew s t ht hm _ 6 t.id reason rfl rfl htl,(B0.grow g).cell,(B1.grow g).cell,(B2.grow g).cell,q.txn ht 0 rfl⟩
 have HB2 : Hid (∀ A2 w2, Rep A2 σ2 w2 → Grow A.L w A2.L w2 → Stay A A2 s → A2.bx = A.bx → ∀ w3, Below w2.heap.size w2 w3 → w3.cell? ⟨b0, 0, none⟩ = some (.pointer (some ⟨A.be, 0, none⟩)) ∧ w3.cell? ⟨b1, 0, none⟩ = some (.pointer (some ⟨A.bt s, 0, none⟩)) ∧ w3.cell? ⟨b2, 0, none⟩ = some (zi (reason : Int)) ∧ w3.cell? ⟨b3, 0, none⟩ = some (.pointer (some ⟨A.bc s, 0, none⟩)) ∧ w3.cell? ⟨b4, 0, none⟩ = some (zi (er : Int)) ∧ w3.cell? ⟨A.bt s, 7, none⟩ = some (.map (some (A.bm s))) ∧ w3.cell? ⟨A.bt s, 6, none⟩ = some (A2.vkeys s) ∧
     (∃ av cap,A2.vkeys s=.slice av t.keys.length cap)∧(∀ k,k<t.keys.length→∀ g cap,A2.vkeys s=.slice (some ⟨g,0,none⟩) t.keys.length cap→w3.cell? ⟨g,k,none⟩=some (zi (t.keys.getD k 0:Int)))∧(∀ k,k<t.keys.length→∃ g cap,A2.vkeys s=.slice (some ⟨g,0,none⟩) t.keys.length cap)∧
     (∀ key x,t.cell key=some x→(Instr.lookup 114 (.map (some (A.bm s))) (zi (key:Int)) false).run Tryz.prog w3=.ok (.pointer (some ⟨A.bx s key,0,none⟩)) w3∧w3.cell? ⟨A.bx s key,1,none⟩=some (zu (x.old:Int)))∧
     Calls Tryz.prog 120 #[.pointer (some ⟨A.bt s,0,none⟩)] w3.drew (fun e w'=>e=.returned (zu ((mine t:Nat):Int))∧w'=w3.drew)):=by
  intro A2 w2 q g st hbx w3 hb;have r3:=q.below hb;have gg:=g.trans (Grow.below (L:=A2.L) hb);have a7:=r3.txn ht2 7 (v:=.map (some (A2.bm s))) rfl;have a6:=r3.txn ht2 6 (v:=A2.vkeys s) rfl;rw[st.bt] at a7 a6;rw[st.bm] at a7;have hown:=r3.mem.all (.keys s);rw[mem_keys ht2,hk2] at hown;obtain⟨av,cap,hv,_⟩:=Ow.own_form hown.1;have hget:∀ k,k<t.keys.length→(t.keys.map i64)[k]? =some (i64 (t.keys.getD k 0)):=fun k hk=>by simp[List.getD,hk]
  have hmi:=flip (mine_any r3.drew s t2 ht2 (by omega) (by omega));rw[st.bt,show mine t2=mine t by unfold mine;rw[hen2]] at hmi;refine⟨(B0.grow gg).cell,(B1.grow gg).cell,(B2.grow gg).cell,(B3.grow gg).cell,(B4.grow gg).cell,a7,a6,⟨av,cap,hv⟩,fun k hk g' cap' hv'=>?_,fun k hk=>?_,fun key x hx=>?_,hmi⟩
  · obtain⟨g1,cap1,hv1,hc1⟩:=own_at hown.1 (hget k hk)
    rw[hv'] at hv1;obtain⟨rfl,_⟩:g'=g1∧cap'=cap1:=by simpa using hv1
    exact hc1
  · obtain⟨g1,cap1,hv1,hc1⟩:=own_at hown.1 (hget k hk)
    exact⟨g1,cap1,hv1⟩
  · have hx2:t2.cell key=some x:=by unfold Txn.cell at hx ⊢;rw[hc2];exact hx
    have hl:=lookup_run r3 ht2 key;have hpx:A2.px s t2 key=.pointer (some ⟨A2.bx s key,0,none⟩):=by unfold Book.px;rw[hx2];rfl
    rw[hpx,hbx,st.bm] at hl;obtain⟨x0,x1,x2⟩:=r3.cel ht2 hx2;rw[hbx] at x1;exact⟨hl,x1⟩
 have HF:Hid (∀ w',Calls Tryz.prog 121 #[] w' fun e w1=>e=.returned (zu ((ever:Nat):Int))∧w1=w'):=fun w'=>flip (Word.forever_any w')
 have HTU:Hid (∀ A2 w2,Rep A2 σ2 w2→Stay A A2 s→∀ w3 av m cap,Below w2.heap.size w2 w3→w3.ownsRow w2.heap.size 213 3 (.slice av m cap) m (trnCs (t.keys.flatMap (aTurn t)))→Calls Tryz.prog 122 #[.pointer (some ⟨A.be,0,none⟩),.pointer (some ⟨A.bt s,0,none⟩),.pointer (some ⟨A.bc s,0,none⟩),.slice av m cap,.agg #[zi (er:Int),zi 0,.slice none 0 0,zi 4,zi (reason:Int)]] w3 (Tells A2 w3 s (σ2,.turns (t.keys.flatMap (aTurn t)) {e:=er,over:=4,reason:=reason}))):=by
  intro A2 w2 q st w3 av m cap hb ho;have h:=turns_at (q.below hb) s (t.keys.flatMap (aTurn t)) (.slice av m cap) (frow_of_own ho q.mem.fresh) {e:=er,over:=4,reason:=reason} er 0 4 reason (.slice none 0 0) rfl (.inr ⟨rfl,rfl⟩);rw[st.be,st.bt,st.bc] at h;exact h
 have HS:Hid (∀ (l:Nat),VL σ l→∀ w,Calls Tryz.prog 62 #[zu (l:Int),zi 1] w fun e w'=>e=.returned (zi ((wslot l 1:Nat):Int))∧w'=w):=fun l hv w'=>flip (slot_at l 1 1 rfl hv.lo (by have:=hv.hi;have:=hR.sl;omega) hv.u (by omega) w')
 have HKK:=zH (zA hK hkl);clear hR ht hm hen hid hi1 hkl hK htl hcnt B0 B1 B2 B3 B4 hrun hσ2 ht2 hk2 hc2 hen2;go_enter Tryz.func118,Tryz.ntmps118;go_wp2_with fail;refine wp_region_still_tail 15 (by kernel_rfl) (by kernel_rfl) ?_;simp only[List.take_succ_cons,List.take_zero,List.drop_succ_cons,List.drop_zero]
 repeat still_step
 still_call HP.out
 repeat still_step
 still_call HA.out
 refine wpStill_nil ?_;change wpList _ _ _ _ _ w.drew;generalize w.drew=wd at*;go_wp2_with (go_at_call 77;refine HL.out.mono ?_;rintro e w1 ⟨rfl,q1,q2⟩;have g1:=HG.out.trans q2;obtain⟨hf,d0,d1,d2,d3⟩:=HB1.out w1 q1 g1;have HQ:=zH (zA hf (g1.trans (Grow.drew _ _)));clear q1 q2 g1 hf);refine wp_region_still_tail 9 (by kernel_rfl) (by kernel_rfl) ?_;simp only[List.take_succ_cons,List.take_zero,List.drop_succ_cons,List.drop_zero]
 repeat still_step
 refine wpStill_nil ?_;change wpList _ _ _ _ _ w1.drew;generalize w1.drew=wd1 at*;go_wp2_with (first|(go_at_call 119;refine HQ.out.1.mono ?_;rintro e w2 ⟨rfl,A2,q1,q2,q3,q4,q5⟩;obtain⟨y0,y1,y2,y3,y4,y7,y6,⟨kv,kc,hkv⟩,_,_,_,_⟩:=HB2.out A2 w2 q1 (HQ.out.2.trans q2) q3 q4 w2 (Below.refl _ _);rw[hkv] at y6;have H2:=zH (zA q1 (zA (HQ.out.2.trans q2) (zA q3 (zA q4 hkv))));clear q1 q2 q3 q4 q5 hkv))
 go_loopw [6,41] (fun l i wr=>∃ k:Nat,k≤t.keys.length∧i=zi (k:Int)∧Below w2.heap.size w2 wr∧∃ av cap,l=.slice av ((t.keys.take k).flatMap (aTurn t)).length cap∧wr.ownsRow w2.heap.size 213 3 l ((t.keys.take k).flatMap (aTurn t)).length (trnCs ((t.keys.take k).flatMap (aTurn t)))) (fun _ i _=>t.keys.length - (intOf i).toNat)
 case atStart=>
  exact⟨0,Nat.zero_le _,rfl,Below.refl _ _,none,0,rfl,rfl,.inl ⟨rfl,rfl⟩⟩
 case round=>
  obtain⟨k,hk,rfl,hb,av,cap,rfl,hown⟩:=hrel;have hm0:=flat_length (aTurn t) (aTurn_length t) (t.keys.take k)
  by_cases hlt:k<t.keys.length
  · obtain⟨x0,x1,x2,x3,x4,x7,x6,_,hget,hform,hcel,hmi⟩:=HB2.out A2 w2 H2.out.1 H2.out.2.1 H2.out.2.2.1 H2.out.2.2.2.1 wr hb
    obtain⟨g,cap',hv⟩:=hform k hlt;obtain⟨rfl,rfl⟩:kv=some ⟨g,0,none⟩∧kc=cap':=by have:=H2.out.2.2.2.2.symm.trans hv;simpa using this
    have hke:=hget k hlt g kc hv;obtain⟨x,hx,ho1,ho2⟩:=HKK.out.1 (t.keys.getD k 0) (by simp[List.getD,hlt]);obtain⟨hlk,ce1⟩:=hcel _ x hx;have hfs:=flat_snoc (aTurn t) t.keys k hlt;have hcT:aTurn t (t.keys.getD k 0)=(if x.old≠0 then [⟨wslot x.old 1,mine t,ever⟩] else []):=by unfold aTurn;rw[hx];rfl
    rw[hcT] at hfs;have hlen:(t.keys.take k).length≤1000000:=by have:=HKK.out.2;simp;omega
    have HM:=zH hmi;have HO:=zH (zA ho2 (zA hlt hfs));have nb1:(k:Int)<(t.keys.length:Int):=by omega
    have n1:IntKind.i64.wrap ((k:Int)+1)=(k:Int)+1:=by rw[IntKind.wrap_i64];have:=HKK.out.2;omega
    clear x0 x2 x3 x4 y0 y1 y2 y3 y4 y7 y6 hget hform hcel hv ho1 ho2 hcT hx hmi;generalize t.keys.getD k 0=key at*;generalize hxs:trnCs ((t.keys.take k).flatMap (aTurn t))=xs at*;have HXS:=zH hxs;clear hxs;generalize hmm:((t.keys.take k).flatMap (aTurn t)).length=m at*;have HMM:=zH hmm;clear hmm hfs;have hm1:m<3000001:=by omega
    clear hm0 hlen hk;generalize A.bx s key=bx at*;generalize mine t=mt at*
    by_cases hl:x.old≠0
    · have hl':x.old≠0:=hl
      obtain⟨e1,e2,e3,e4,e5⟩:=zeF (x:=x.old) (c:=0) (ci:=0) (by omega);have HS1:=zH (fun w'=>HS.out x.old (HO.out.1.resolve_left hl) w');have hfs:=HO.out.2.2;simp only[if_pos hl] at hfs;have HFS:=zH hfs;have HOW:=zH (zA hown hb);clear hfs hl hl' hown hb;generalize wslot x.old 1=ws1 at*;go_wp2_with fail
      go_region_law (first|(refine wp_turn2 wr _ _ _ rfl w2 HOW.out.2 av m cap xs rfl HOW.out.1 (by omega) (ws1:Int) (mt:Int) ((ever:Nat):Int) rfl rfl ?_;intro avl capl wl ql pl;have HQL:=zH (zA ql pl);clear ql pl)|(go_simp;go_at_call 62;refine (HS1.out _).mono ?_;rintro e w' ⟨rfl,rfl⟩)|(go_simp;go_at_call 120;refine HM.out.mono ?_;rintro e w' ⟨rfl,rfl⟩)|(go_simp;go_at_call 121;refine (HF.out _).mono ?_;rintro e w' ⟨rfl,rfl⟩))
      all_goals
       go_wp2_with fail
       go_roundw
       case rel=>
        refine⟨k+1,by have:=HO.out.2.1;omega,rfl,HQL.out.2,avl,capl,?_,?_⟩
        · rw[HFS.out,List.length_append,HMM.out];rfl
        · rw[HFS.out,List.length_append,HMM.out,trnCs_append,HXS.out];exact HQL.out.1
       case measure=>have:=HO.out.2.1;simp[intOf];omega
    · have ho0:x.old=0:=by omega
      obtain⟨e1,e2,e3,e4,e5⟩:=zeT (x:=x.old) (c:=0) (ci:=0) (by omega);have hfs:=HO.out.2.2;simp only[if_neg hl,List.append_nil] at hfs;have HFS:=zH hfs;clear hfs hl ho0;go_wp2_with fail
      go_roundw
      case rel=>exact⟨k+1,by have:=HO.out.2.1;omega,rfl,hb,av,cap,by rw[HFS.out,HMM.out],by rw[HFS.out,HMM.out,HXS.out];exact hown⟩
      case measure=>have:=HO.out.2.1;simp[intOf];omega
  · obtain rfl:k=t.keys.length:=by omega
    rw[List.take_length] at hown ⊢;obtain⟨x0,x1,x2,x3,x4,x7,x6,_⟩:=HB2.out A2 w2 H2.out.1 H2.out.2.1 H2.out.2.2.1 H2.out.2.2.2.1 wr hb;have HE:=zH (zA (HTU.out A2 w2 H2.out.1 H2.out.2.2.1 wr av _ cap hb hown) (Grow.below (L:=A2.L) hb));clear hown hb hlt hk hm0;generalize (t.keys.flatMap (aTurn t)).length=m at*;go_wp2_with (go_at_call 122;refine HE.out.1.mono ?_;rintro e w4 ⟨A3,v,rfl,p1,p2,p3,p4⟩);go_ret;exact⟨A3,v,rfl,p1,(H2.out.2.1.trans HE.out.2).trans p2,H2.out.2.2.1.trans p3,p4⟩
end Go.Proofs.YtbefcdjcefmicaaGreat.Em
