import Derived.Test.YtpkenfnmkpmapaaGreatQh11
import Derived.Test.YtpkenfnmkpmapaaGreatQh13
import Derived.Test.YtpkenfnmkpmapaaGreatQh14
namespace Go.Proofs.YtpkenfnmkpmapaaGreat.Em
open Go.ChangeShapes Go.WideShapes Go.ChangeAt Go.RowKit En
set_option linter.unusedVariables false
set_option linter.unusedSimpArgs false
set_option maxRecDepth 100000
set_option maxHeartbeats 1600000
def aTurn (t:Txn) (key:Nat):List Trn:=if ((t.cell key).getD default).old≠0 then [⟨wslot ((t.cell key).getD default).old 1,mine t,ever⟩] else []
theorem abortTurns_eq (σ:St) (t:Txn):abortTurns σ t=t.keys.flatMap (aTurn t):=rfl
theorem aTurn_length (t:Txn) (key:Nat):(aTurn t key).length≤3:=by
 unfold aTurn
 split
 all_goals simp
theorem wp_turn2 {o:Oper} {a:Act} {K:Act→World→Prop} {Q:Exit→Act→World→Prop} (w W:World) (s x:Operand)
 (ho:o.op=.call {callee:=.builtin .append,args:=#[s,x],argTypes:=#[221,221]})
 (w0:World) (hb:Below w0.heap.size w0 w) (av:Option Addr) (m cap:Nat) (xs:List Value) (hs:a.eval s=.slice av m cap) (hown:w.ownsRow w0.heap.size 223 3 (.slice av m cap) m xs) (hm:m<4000000)
 (t0 t1 t2:Int) (hW:W=(w.alloc (.cells #[zi t0,zu t1,zu t2] 223)).drew) (hx:a.eval x=.slice (some ⟨w.heap.size,0,none⟩) 1 1)
 (h:∀ av' cap' w',w'.ownsRow w0.heap.size 223 3 (.slice av' (m+1) cap') (m+1) (xs++[zi t0,zu t1,zu t2])→Below w0.heap.size w0 w'→K (a.put o.dst (.slice av' (m+1) cap')) w'):
 o.wp Tryz.prog a W K Q:=by
 subst hW;obtain⟨ii,hii,hz0,hz1,hz2⟩:=info_parts infoT;have hw:=hb.size;have hown':(w.alloc (.cells #[zi t0,zu t1,zu t2] 223)).drew.ownsRow w0.heap.size 223 3 (.slice av m cap) m xs:=own_same hown fun g hg=>Below.heap_alloc _ _ _ (hown.lt g hg).2
 refine Ow.wp_append_to _ s x 221 ho w0.heap.size 223 ii _ 3 24 Tryz.underlying221 hii hz0 hz1 hz2 rfl (by decide) (.slice av m cap) m xs hs hown' ⟨w.heap.size,0,none⟩ 1 1 (by omega) [zi t0,zu t1,zu t2] hx rfl (fun j u hu=>Ow.new_row w [zi t0,zu t1,zu t2] _ _ rfl j u hu) (by intro u hu;simp at hu;rcases hu with rfl|rfl|rfl<;>rfl) (by unfold maxLen;omega) (by omega) (by simp[World.drew];omega) ?_;intro v' w' q1 q2 q3;obtain⟨av',cap',rfl,_⟩:=Ow.own_form q1;exact h av' cap' w' q1 (((hb.alloc hw _).drew).grown q2 (by simp[World.drew];omega) (fun g hg=>(hown.lt g hg).1))
set_option maxHeartbeats 16000000 in
theorem k_abort {A:Book} {σ:St} {w:World} (hR:Rep A σ w) (s:Nat) (t:Txn) (ht:σ.txns.getD s none=some t) (hm:A.mt s=0) (er reason:Nat) (hen:t.end_≤1099511627776) (hi1:1≤t.id) (hid:t.id≤2000) (hkl:t.keys.length<1000000) (hK:KeysOk σ t) (htl:σ.tale.length<1000000) (hcnt:σ.count<4000000000000000000) (b0 b1 b2 b3 b4:Nat)
 (B0:Box A.L w b0 (.pointer (some ⟨A.be,0,none⟩))) (B1:Box A.L w b1 (.pointer (some ⟨A.bt s,0,none⟩))) (B2:Box A.L w b2 (zi (reason:Int))) (B3:Box A.L w b3 (.pointer (some ⟨A.bc s,0,none⟩))) (B4:Box A.L w b4 (zi (er:Int))):
 Calls Tryz.prog 116 #[.pointer (some ⟨b0,0,none⟩),.pointer (some ⟨b1,0,none⟩),.pointer (some ⟨b2,0,none⟩),.pointer (some ⟨b3,0,none⟩),.pointer (some ⟨b4,0,none⟩)] w (Ran A w s (σ.run s (.abort er reason))):=by
 have c0:=B0.cell;have c1:=B1.cell;have e2:=hR.z2;have t4:w.cell? ⟨A.bt s,4,none⟩=some (zu (t.end_:Int)):=hR.txn ht 4 rfl;have t0:w.cell? ⟨A.bt s,0,none⟩=some (zi (t.id:Int)):=hR.txn ht 0 rfl;have HP:=zH (place_still hR.drew t.id (by omega));have HA:=zH (pack_still 4 (t.end_:Int) 4 t.end_ rfl rfl (by omega) (by omega) w.drew);have HL:=zH (store_any hR.drew (σ.place t.id) (pack 4 t.end_) (by rw[hR.nw];unfold St.place;omega) hcnt);have HG:=zG A.L w;obtain⟨σ2,hσ2⟩:∃ σ2,σ2=(σ.put (σ.place t.id) (pack 4 t.end_)).tellEnd s {kind:=6,t:=t.id,res:={reason:=reason}}:=⟨_,rfl⟩
 have hrun:σ.run s (.abort er reason)=(σ2,some (.turns (t.keys.flatMap (aTurn t)) {e:=er,over:=4,reason:=reason})):=by
  rw[hσ2,←abortTurns_eq (σ.put (σ.place t.id) (pack 4 t.end_)) t];simp only[St.run,txn_get ht];rfl
 rw[hrun];obtain⟨t2,ht2,hk2,hc2,hen2⟩:∃ t2,σ2.txns.getD s none=some t2∧t2.keys=t.keys∧t2.cells=t.cells∧t2.id=t.id:=by
  have ht1:(σ.put (σ.place t.id) (pack 4 t.end_)).txns.getD s none=some t:=ht;rw[hσ2];unfold St.tellEnd;rw[txn_get ht1]
  by_cases ho:t.over=true
  · rw[if_pos ho];exact⟨t,ht1,rfl,rfl,rfl⟩
  · rw[if_neg ho]
    refine⟨{t with over:=true},?_,rfl,rfl,rfl⟩;show ((σ.put (σ.place t.id) (pack 4 t.end_)).setT s {t with over:=true}).txns.getD s none=_;rw[getT_set (lt_of_txn ht1),if_pos rfl]
 have HB1:Hid (∀ w1,Rep A (σ.put (σ.place t.id) (pack 4 t.end_)) w1→Grow A.L w A.L w1→Calls Tryz.prog 117 #[.pointer (some ⟨A.be,0,none⟩),.pointer (some ⟨A.bt s,0,none⟩),.agg #[zi 6,zi (t.id:Int),zu 0,zi 0,zi 0,zi 0,zi 0,zi 0,zi 0,.slice none 0 0,zi 0,zi (reason:Int)]] w1.drew (Told A w1.drew s σ2)∧w1.cell? ⟨b0,0,none⟩=some (.pointer (some ⟨A.be,0,none⟩))∧w1.cell? ⟨b1,0,none⟩=some (.pointer (some ⟨A.bt s,0,none⟩))∧w1.cell? ⟨b2,0,none⟩=some (zi (reason:Int))∧w1.cell? ⟨A.bt s,0,none⟩=some (zi (t.id:Int))):=by
  intro w1 q g;rw[hσ2];exact⟨tell_any q.drew s t ht hm _ 6 t.id reason rfl rfl htl,(B0.grow g).cell,(B1.grow g).cell,(B2.grow g).cell,q.txn ht 0 rfl⟩
 have HB2 : Hid (∀ A2 w2, Rep A2 σ2 w2 → Grow A.L w A2.L w2 → Stay A A2 s → A2.bx = A.bx → ∀ w3, Below w2.heap.size w2 w3 → w3.cell? ⟨b0, 0, none⟩ = some (.pointer (some ⟨A.be, 0, none⟩)) ∧ w3.cell? ⟨b1, 0, none⟩ = some (.pointer (some ⟨A.bt s, 0, none⟩)) ∧ w3.cell? ⟨b2, 0, none⟩ = some (zi (reason : Int)) ∧ w3.cell? ⟨b3, 0, none⟩ = some (.pointer (some ⟨A.bc s, 0, none⟩)) ∧ w3.cell? ⟨b4, 0, none⟩ = some (zi (er : Int)) ∧ w3.cell? ⟨A.bt s, 7, none⟩ = some (.map (some (A.bm s))) ∧ w3.cell? ⟨A.bt s, 6, none⟩ = some (A2.vkeys s) ∧
     (∃ av cap,A2.vkeys s=.slice av t.keys.length cap)∧(∀ k,k<t.keys.length→∀ g cap,A2.vkeys s=.slice (some ⟨g,0,none⟩) t.keys.length cap→w3.cell? ⟨g,k,none⟩=some (zi (t.keys.getD k 0:Int)))∧(∀ k,k<t.keys.length→∃ g cap,A2.vkeys s=.slice (some ⟨g,0,none⟩) t.keys.length cap)∧
     (∀ key x,t.cell key=some x→(Instr.lookup 105 (.map (some (A.bm s))) (zi (key:Int)) false).run Tryz.prog w3=.ok (.pointer (some ⟨A.bx s key,0,none⟩)) w3∧w3.cell? ⟨A.bx s key,1,none⟩=some (zu (x.old:Int)))∧
     Calls Tryz.prog 118 #[.pointer (some ⟨A.bt s,0,none⟩)] w3.drew (fun e w'=>e=.returned (zu ((mine t:Nat):Int))∧w'=w3.drew)):=by
  intro A2 w2 q g st hbx w3 hb;have r3:=q.below hb;have gg:=g.trans (Grow.below (L:=A2.L) hb);have a7:=r3.txn ht2 7 (v:=.map (some (A2.bm s))) rfl;have a6:=r3.txn ht2 6 (v:=A2.vkeys s) rfl;rw[st.bt] at a7 a6;rw[st.bm] at a7;have hown:=r3.mem.all (.keys s);rw[mem_keys ht2,hk2] at hown;obtain⟨av,cap,hv,_⟩:=Ow.own_form hown.1;have hget:∀ k,k<t.keys.length→(t.keys.map i64)[k]? =some (i64 (t.keys.getD k 0)):=fun k hk=>by simp[List.getD,hk]
  have hmi:=flip (mine_any r3.drew s t2 ht2 (by omega) (by omega));rw[st.bt,show mine t2=mine t by unfold mine;rw[hen2]] at hmi;refine⟨(B0.grow gg).cell,(B1.grow gg).cell,(B2.grow gg).cell,(B3.grow gg).cell,(B4.grow gg).cell,a7,a6,⟨av,cap,hv⟩,fun k hk g' cap' hv'=>?_,fun k hk=>?_,fun key x hx=>?_,hmi⟩
  · obtain⟨g1,cap1,hv1,hc1⟩:=own_at hown.1 (hget k hk)
    rw[hv'] at hv1;obtain⟨rfl,_⟩:g'=g1∧cap'=cap1:=by simpa using hv1
    exact hc1
  · obtain⟨g1,cap1,hv1,hc1⟩:=own_at hown.1 (hget k hk)
    exact⟨g1,cap1,hv1⟩
  · have hx2:t2.cell key=some x:=by unfold Txn.cell at hx ⊢;rw[hc2];exact hx
    have hl:=lookup_run r3 ht2 key;have hpx:A2.px s t2 key=.pointer (some ⟨A2.bx s key,0,none⟩):=by unfold Book.px;rw[hx2];rfl
    rw[hpx,hbx,st.bm] at hl;obtain⟨x0,x1,x2⟩:=r3.cel ht2 hx2;rw[hbx] at x1;exact⟨hl,x1⟩
 have HF:Hid (∀ w',Calls Tryz.prog 119 #[] w' fun e w1=>e=.returned (zu ((ever:Nat):Int))∧w1=w'):=fun w'=>flip (Word.forever_any w')
 have HTU:Hid (∀ A2 w2,Rep A2 σ2 w2→Stay A A2 s→∀ w3 av m cap,Below w2.heap.size w2 w3→w3.ownsRow w2.heap.size 223 3 (.slice av m cap) m (trnCs (t.keys.flatMap (aTurn t)))→Calls Tryz.prog 120 #[.pointer (some ⟨A.be,0,none⟩),.pointer (some ⟨A.bt s,0,none⟩),.pointer (some ⟨A.bc s,0,none⟩),.slice av m cap,.agg #[zi (er:Int),zi 0,.slice none 0 0,zi 4,zi (reason:Int)]] w3 (Tells A2 w3 s (σ2,.turns (t.keys.flatMap (aTurn t)) {e:=er,over:=4,reason:=reason}))):=by
  intro A2 w2 q st w3 av m cap hb ho;have h:=turns_at (q.below hb) s (t.keys.flatMap (aTurn t)) (.slice av m cap) (frow_of_own ho q.mem.fresh) {e:=er,over:=4,reason:=reason} er 0 4 reason (.slice none 0 0) rfl (.inr ⟨rfl,rfl⟩);rw[st.be,st.bt,st.bc] at h;exact h
 have HS:Hid (∀ (l:Nat),VL σ l→∀ w,Calls Tryz.prog 72 #[zu (l:Int),zi 1] w fun e w'=>e=.returned (zi ((wslot l 1:Nat):Int))∧w'=w):=fun l hv w'=>flip (slot_at l 1 1 rfl hv.lo (by have:=hv.hi;have:=hR.sl;omega) hv.u (by omega) w')
 have HKK:=zH (zA hK hkl);clear hR ht hm hen hid hi1 hkl hK htl hcnt B0 B1 B2 B3 B4 hrun hσ2 ht2 hk2 hc2 hen2;go_enter Tryz.func116,Tryz.ntmps116;go_wp2_with fail;refine wp_region_still_tail 15 (by kernel_rfl) (by kernel_rfl) ?_;simp only[zta,ztb,ztc,ztd]
 repeat still_step
 still_call HP.out
 repeat still_step
 still_call HA.out
 refine wpStill_nil ?_;change wpList _ _ _ _ _ w.drew;generalize w.drew=wd at*;go_wp2_with (go_at_call 62;refine HL.out.mono ?_;rintro e w1 ⟨rfl,q1,q2⟩;have g1:=HG.out.trans q2;obtain⟨hf,d0,d1,d2,d3⟩:=HB1.out w1 q1 g1;have HQ:=zH (zA hf (g1.trans (Grow.drew _ _)));clear q1 q2 g1 hf);refine wp_region_still_tail 9 (by kernel_rfl) (by kernel_rfl) ?_;simp only[zta,ztb,ztc,ztd]
 repeat still_step
 refine wpStill_nil ?_;change wpList _ _ _ _ _ w1.drew;generalize w1.drew=wd1 at*;go_wp2_with (first|(go_at_call 117;refine HQ.out.1.mono ?_;rintro e w2 ⟨rfl,A2,q1,q2,q3,q4,q5⟩;obtain⟨y0,y1,y2,y3,y4,y7,y6,⟨kv,kc,hkv⟩,_,_,_,_⟩:=HB2.out A2 w2 q1 (HQ.out.2.trans q2) q3 q4 w2 (Below.refl _ _);rw[hkv] at y6;have H2:=zH (zA q1 (zA (HQ.out.2.trans q2) (zA q3 (zA q4 hkv))));clear q1 q2 q3 q4 q5 hkv))
 go_loopw [6,41] (fun l i wr=>∃ k:Nat,k≤t.keys.length∧i=zi (k:Int)∧Below w2.heap.size w2 wr∧∃ av cap,l=.slice av ((t.keys.take k).flatMap (aTurn t)).length cap∧wr.ownsRow w2.heap.size 223 3 l ((t.keys.take k).flatMap (aTurn t)).length (trnCs ((t.keys.take k).flatMap (aTurn t)))) (fun _ i _=>t.keys.length - (intOf i).toNat)
 case atStart=>
  exact⟨0,Nat.zero_le _,rfl,Below.refl _ _,none,0,rfl,rfl,.inl ⟨rfl,rfl⟩⟩
 case round=>
  obtain⟨k,hk,rfl,hb,av,cap,rfl,hown⟩:=hrel;have hm0:=flat_length (aTurn t) (aTurn_length t) (t.keys.take k)
  by_cases hlt:k<t.keys.length
  · obtain⟨x0,x1,x2,x3,x4,x7,x6,_,hget,hform,hcel,hmi⟩:=HB2.out A2 w2 H2.out.1 H2.out.2.1 H2.out.2.2.1 H2.out.2.2.2.1 wr hb
    obtain⟨g,cap',hv⟩:=hform k hlt;obtain⟨rfl,rfl⟩:kv=some ⟨g,0,none⟩∧kc=cap':=by have:=H2.out.2.2.2.2.symm.trans hv;simpa using this
    have hke:=hget k hlt g kc hv;obtain⟨x,hx,ho1,ho2⟩:=HKK.out.1 (t.keys.getD k 0) (by simp[List.getD,hlt]);obtain⟨hlk,ce1⟩:=hcel _ x hx;have hfs:=flat_snoc (aTurn t) t.keys k hlt;have hcT:aTurn t (t.keys.getD k 0)=(if x.old≠0 then [⟨wslot x.old 1,mine t,ever⟩] else []):=by unfold aTurn;rw[hx];rfl
    rw[hcT] at hfs;have hlen:(t.keys.take k).length≤1000000:=by have:=HKK.out.2;simp;omega
    have HM:=zH hmi;have HO:=zH (zA ho2 (zA hlt hfs));have nb1:(k:Int)<(t.keys.length:Int):=by omega
    have n1:IntKind.i64.wrap ((k:Int)+1)=(k:Int)+1:=by rw[IntKind.wrap_i64];have:=HKK.out.2;omega
    clear x0 x2 x3 x4 y0 y1 y2 y3 y4 y7 y6 hget hform hcel hv ho1 ho2 hcT hx hmi;generalize t.keys.getD k 0=key at*;generalize hxs:trnCs ((t.keys.take k).flatMap (aTurn t))=xs at*;have HXS:=zH hxs;clear hxs;generalize hmm:((t.keys.take k).flatMap (aTurn t)).length=m at*;have HMM:=zH hmm;clear hmm hfs;have hm1:m<3000001:=by omega
    clear hm0 hlen hk;generalize A.bx s key=bx at*;generalize mine t=mt at*
    by_cases hl:x.old≠0
    · have hl':x.old≠0:=hl
      obtain⟨e1,e2,e3,e4,e5⟩:=zeF (x:=x.old) (c:=0) (ci:=0) (by omega);have HS1:=zH (fun w'=>HS.out x.old (HO.out.1.resolve_left hl) w');have hfs:=HO.out.2.2;simp only[if_pos hl] at hfs;have HFS:=zH hfs;have HOW:=zH (zA hown hb);clear hfs hl hl' hown hb;generalize wslot x.old 1=ws1 at*;go_wp2_with fail
      go_region_law (first|(refine wp_turn2 wr _ _ _ rfl w2 HOW.out.2 av m cap xs rfl HOW.out.1 (by omega) (ws1:Int) (mt:Int) ((ever:Nat):Int) rfl rfl ?_;intro avl capl wl ql pl;have HQL:=zH (zA ql pl);clear ql pl)|(go_simp;go_at_call 72;refine (HS1.out _).mono ?_;rintro e w' ⟨rfl,rfl⟩)|(go_simp;go_at_call 118;refine HM.out.mono ?_;rintro e w' ⟨rfl,rfl⟩)|(go_simp;go_at_call 119;refine (HF.out _).mono ?_;rintro e w' ⟨rfl,rfl⟩))
      all_goals
       go_wp2_with fail
       go_roundw
       case rel=>
        refine⟨k+1,by have:=HO.out.2.1;omega,rfl,HQL.out.2,avl,capl,?_,?_⟩
        · rw[HFS.out,List.length_append,HMM.out];rfl
        · rw[HFS.out,List.length_append,HMM.out,trnCs_append,HXS.out];exact HQL.out.1
       case measure=>have:=HO.out.2.1;simp[intOf];omega
    · have ho0:x.old=0:=by omega
      obtain⟨e1,e2,e3,e4,e5⟩:=zeT (x:=x.old) (c:=0) (ci:=0) (by omega);have hfs:=HO.out.2.2;simp only[if_neg hl,List.append_nil] at hfs;have HFS:=zH hfs;clear hfs hl ho0;go_wp2_with fail
      go_roundw
      case rel=>exact⟨k+1,by have:=HO.out.2.1;omega,rfl,hb,av,cap,by rw[HFS.out,HMM.out],by rw[HFS.out,HMM.out,HXS.out];exact hown⟩
      case measure=>have:=HO.out.2.1;simp[intOf];omega
  · obtain rfl:k=t.keys.length:=by omega
    rw[List.take_length] at hown ⊢;obtain⟨x0,x1,x2,x3,x4,x7,x6,_⟩:=HB2.out A2 w2 H2.out.1 H2.out.2.1 H2.out.2.2.1 H2.out.2.2.2.1 wr hb;have HE:=zH (zA (HTU.out A2 w2 H2.out.1 H2.out.2.2.1 wr av _ cap hb hown) (Grow.below (L:=A2.L) hb));clear hown hb hlt hk hm0;generalize (t.keys.flatMap (aTurn t)).length=m at*;go_wp2_with (go_at_call 120;refine HE.out.1.mono ?_;rintro e w4 ⟨A3,v,rfl,p1,p2,p3,p4⟩);go_ret;exact⟨A3,v,rfl,p1,(H2.out.2.1.trans HE.out.2).trans p2,H2.out.2.2.1.trans p3,p4⟩
theorem Fix.set2 {L:Lab} {w:World} {b:Nat} {x y:Value} {T:TypeId} (h:Fix L w b (.cells #[x,y] T)) (u v:Value):Fix L ((w.setCell ⟨b,0,none⟩ u).setCell ⟨b,1,none⟩ v) b (.cells #[u,v] T):=by
 refine⟨h.1,?_⟩;have h2:=h.2;simp[World.setCell,Array.getElem?_modify,h2]
theorem Rep.stamp {A:Book} {σ σ1:St} {w w2:World} (hR:Rep A σ w) (r2:Rep A σ1 w2) (g:Grow A.L w A.L w2) (ht:σ1.tale=σ.tale) {b:Nat} {x y:Value} {T:TypeId} (hb:w.heap.size≤b) (fx:Fix A.L w2 b (.cells #[x,y] T)) (u v:Value):
 Rep A σ1 ((w2.setCell ⟨b,0,none⟩ u).setCell ⟨b,1,none⟩ v)∧Grow A.L w A.L ((w2.setCell ⟨b,0,none⟩ u).setCell ⟨b,1,none⟩ v)∧Fix A.L ((w2.setCell ⟨b,0,none⟩ u).setCell ⟨b,1,none⟩ v) b (.cells #[u,v] T):=by
 obtain⟨r3,g3⟩:=hR.setNew r2 g ht rfl (a:=⟨b,0,none⟩) hb fx.1 u;obtain⟨r4,g4⟩:=hR.setNew r3 g3 ht rfl (a:=⟨b,1,none⟩) hb fx.1 v;exact⟨r4,g4,fx.set2 u v⟩
theorem k_ended {A:Book} {σ:St} {w:World} (hR:Rep A σ w) (s:Nat) (hmp:A.mp=0) (t:Txn) (ht:σ.txns.getD s none=some t) (hu:Hunt) (link mb b0 b1 b2:Nat) (B0:HuntBox (kp A σ s) A.L w b0 hu) (B1:Box A.L w b1 (zu (link:Int))) (B2:Box A.L w b2 (zi (mb:Int))) (hv:VL σ link) (hx:σ.word (wslot link 1)<18446744073709551616) (hcnt:σ.count<4000000000000000000) (HT:mb=0→ThnTo σ.tick s hu link):
 Calls Tryz.prog 202 #[.pointer (some ⟨b0,0,none⟩),.pointer (some ⟨b1,0,none⟩),.pointer (some ⟨b2,0,none⟩)] w (Ran A w s (σ.run s (.ended hu link mb))):=by
 have hsl:=hR.sl;obtain⟨bh,X0,hh0⟩:=B0;obtain⟨vt,TT,fh,hth⟩:=id hh0;have c0:=X0.cell;have c1:=B1.cell;have h0:w.cell? ⟨bh,0,none⟩=some (.pointer (some ⟨A.be,0,none⟩)):=fh.cell 0 rfl;have e2:=hR.z2;have HSl:=zH (slot_at link 1 1 rfl hv.lo (by have:=hv.hi;omega) hv.u (by omega));have HL:Hid (∀ w',Rep A σ w'→Calls Tryz.prog 58 #[.pointer (some ⟨A.ba,0,none⟩),zi ((wslot link 1:Nat):Int)] w' (Did A w' σ.tick (zu (σ.word (wslot link 1):Int)))):=fun w' r=>load_any r (wslot link 1) (wslot_lt hR hv.lo hv.hi (by omega)) hcnt
 have HKK:Hid (∀ w',Rep A σ.tick w'→Grow A.L w A.L w'→w'.cell? ⟨b0,0,none⟩=some (.pointer (some ⟨bh,0,none⟩))∧w'.cell? ⟨b1,0,none⟩=some (zu (link:Int))∧w'.cell? ⟨bh,0,none⟩=some (.pointer (some ⟨A.be,0,none⟩))∧w'.cell? ⟨A.be,2,none⟩=some (.pointer (some ⟨A.ba,0,none⟩))):=fun w' r g=>⟨(X0.grow g).cell,(B1.grow g).cell,(fh.grow g).cell 0 rfl,r.eng 2 rfl⟩
 have hrd:=rd_any (σ.word (wslot link 1)) hx;have HRD:=zH hrd;have HRd:Hid (Rep A σ w.drew):=hR.drew;have HG:=zG A.L w;have HFX:Hid (Fix A.L (w.drew.alloc (.cells #[zi 0,zu 0] 195)) w.heap.size (.cells #[zi 0,zu 0] 195)):=fix_next hR.drew.mem.fresh _ rfl;have x0:=World.new_ne w _ c0;have x1:=World.new_ne w _ c1;have x2:=World.new_ne w _ h0;have x3:=World.new_ne w _ e2;generalize hkd:(rd (σ.word (wslot link 1))).1=kd at*;generalize hn:(rd (σ.word (wslot link 1))).2=n at*;have HST:Hid (∀ w2 b,Rep A σ.tick w2→Grow A.L w A.L w2→w.heap.size≤b→Fix A.L w2 b (.cells #[zi 0,zu 0] 195)→Rep A σ.tick ((w2.setCell ⟨b,0,none⟩ (zi (kd:Int))).setCell ⟨b,1,none⟩ (zu (n:Int)))∧Grow A.L w A.L ((w2.setCell ⟨b,0,none⟩ (zi (kd:Int))).setCell ⟨b,1,none⟩ (zu (n:Int)))∧Fix A.L ((w2.setCell ⟨b,0,none⟩ (zi (kd:Int))).setCell ⟨b,1,none⟩ (zu (n:Int))) b (.cells #[zi (kd:Int),zu (n:Int)] 195)):=fun w2 b r g hb fx=>hR.stamp r g rfl hb fx _ _
 have HSZ:Hid (∀ w1,Grow A.L w A.L w1→w.heap.size≤w1.heap.size):=fun w1 g=>g.size
 have HB:Hid (∀ w1,Rep A σ.tick w1→Grow A.L w A.L w1→w1.cell? ⟨b0,0,none⟩=some (.pointer (some ⟨bh,0,none⟩))∧w1.cell? ⟨b1,0,none⟩=some (zu (link:Int))∧w1.cell? ⟨b2,0,none⟩=some (zi (mb:Int))∧w1.cell? ⟨bh,0,none⟩=some (.pointer (some ⟨A.be,0,none⟩))∧w1.cell? ⟨bh,1,none⟩=some (.pointer (some ⟨A.bt s,0,none⟩))∧w1.cell? ⟨bh,3,none⟩=some (zu (hu.at_:Int))∧w1.cell? ⟨A.bt s,0,none⟩=some (zi (t.id:Int))):=
  fun w1 q g=>⟨(X0.grow g).cell,(B1.grow g).cell,(B2.grow g).cell,(fh.grow g).cell 0 rfl,(fh.grow g).cell 1 rfl,(fh.grow g).cell 3 rfl,q.txn (s:=s) (t:=t) ht 0 rfl⟩
 have HSeen:Hid (∀ w1,Rep A σ.tick w1→Grow A.L w A.L w1→Calls Tryz.prog 203 #[.pointer (some ⟨bh,0,none⟩),zu (link:Int),zi (mb:Int)] w1 (Tells A w1 s (σ.tick.seen s hu link mb))):=fun w1 q g=>seen_any q s hmp bh hu (show HuntAt (kp A σ.tick s) A.L w1 bh hu from hh0.grow g) link mb HT
 have HOld:Hid (∀ w1,Rep A σ.tick w1→Grow A.L w A.L w1→Calls Tryz.prog 192 #[.pointer (some ⟨bh,0,none⟩),zu (link:Int)] w1 (Tells A w1 s (σ.tick,.older hu link))):=fun w1 q g=>older_any q s bh hu (show HuntAt (kp A σ.tick s) A.L w1 bh hu from hh0.grow g) link
 have HEnder:Hid (∀ w1,Rep A σ.tick w1→Grow A.L w A.L w1→Calls Tryz.prog 204 #[.pointer (some ⟨bh,0,none⟩),zu (link:Int),zi (mb:Int),zi (n:Int)] w1 (Tells A w1 s (σ.tick,.ender hu link mb n))):=fun w1 q g=>ender_any q s bh hu (show HuntAt (kp A σ.tick s) A.L w1 bh hu from hh0.grow g) link mb n
 have hn2:kd=2→n≤65535:=by
  intro h;have:=(rd_small (σ.word (wslot link 1)) hx).2.1;rw[hkd,hn] at this;have:=this h;omega
 have hrun:σ.run s (.ended hu link mb)=if kd=1∧n≤hu.at_ then (σ.tick,some (.older hu link)) else if kd≠2∨n=t.id then ((σ.tick.seen s hu link mb).1,some (σ.tick.seen s hu link mb).2) else (σ.tick,some (.ender hu link mb n)):=by
  have e:σ.tick.t s=t:=txn_get ht;simp only[St.run,hkd,hn,e]
 have HRUN:=zH hrun;have HN2:=zH hn2;generalize σ.run s (.ended hu link mb)=rr at*;clear hn2 hR hcnt hv X0 B1 B2 fh hth hh0 HT hx hrd hkd hn hrun ht hmp hsl;generalize hu.at_=ha at*;generalize t.id=tid at*;generalize σ.word (wslot link 1)=x at*;go_enter Tryz.func202,Tryz.ntmps202;go_wp2_with fail
 go_region_held3 (fun w'=>w'.cell? ⟨b0,0,none⟩=some (.pointer (some ⟨bh,0,none⟩))∧w'.cell? ⟨b1,0,none⟩=some (zu (link:Int))∧w'.cell? ⟨bh,0,none⟩=some (.pointer (some ⟨A.be,0,none⟩))∧w'.cell? ⟨A.be,2,none⟩=some (.pointer (some ⟨A.ba,0,none⟩)))
  (first|exact⟨c0,c1,h0,e2⟩|assumption|exact HKK.out _ q1 q4|exact HKK.out _ (q1.alloc _) (q4.trans (Grow.alloc _ _ _))|exact HKK.out _ r2 g2|exact HKK.out _ (r2.alloc _) (g2.trans (Grow.alloc _ _ _))|exact HKK.out _ (HST.out _ _ r2 g2 hb FX.out).1 (HST.out _ _ r2 g2 hb FX.out).2.1|go_keep)
  (first|(go_at_call 72;refine (HSl.out _).mono ?_;rintro e w' ⟨rfl,rfl⟩)|(go_at_call 58;refine (HL.out _ HRd.out).mono ?_;rintro e w1 ⟨rfl,q1,q2⟩;have q4:=HG.out.trans q2)|(go_at_call 58;refine (HL.out _ (HRd.out.alloc _)).mono ?_;rintro e w1 ⟨rfl,q1,q2⟩;have q4:=(HG.out.trans (Grow.alloc _ _ _)).trans q2;have FX1:=zH (HFX.out.grow q2))|(go_at_call 95;refine (HRD.out _).mono ?_;rintro e w2 ⟨rfl,hq⟩;have r2:=q1.below hq;have g2:=q4.trans (Grow.below hq);have FX:=zH (FX1.out.grow (Grow.below hq));have hb:=Nat.le_refl w.heap.size;have nb0:=FX.out.cell 0 (v:=zi 0) rfl;have nb1:=FX.out.cell 1 (v:=zu 0) rfl;have nz0:=FX.out.frozen 0;have nz1:=FX.out.frozen 1)|(go_at_call 95;refine (HRD.out _).mono ?_;rintro e w2 ⟨rfl,hq⟩;have r2:=(q1.alloc _).below hq;have g2:=(q4.trans (Grow.alloc A.L _ _)).trans (Grow.below hq);have FX:=zH ((fix_next q1.mem.fresh (.cells #[zi 0,zu 0] 195) rfl).grow (Grow.below (L:=A.L) hq));have hb:=HSZ.out _ q4;have nb0:=FX.out.cell 0 (v:=zi 0) rfl;have nb1:=FX.out.cell 1 (v:=zu 0) rfl;have nz0:=FX.out.frozen 0;have nz1:=FX.out.frozen 1)|(go_at_call 95;refine (HRD.out _).mono ?_;rintro e w2 ⟨rfl,hq⟩;have r2:=q1.below hq;have g2:=q4.trans (Grow.below hq)))
 all_goals
  rename_i hHeld;clear hHeld x0 x1 x2 x3 c0 c1 h0 e2
  first
  | (have HZ := zH (HST.out _ _ r2 g2 hb FX.out)
     clear FX hb nb0 nb1 nz0 nz1 r2 g2 q1 q4
     generalize hW:(World.setCell _ _ _).setCell _ _=W at *)
  | (have HZ := zH (zA (r2.alloc (.cells #[zi (kd : Int), zu (n : Int)] 195)) (zA (g2.trans (Grow.alloc _ _ (.cells #[zi (kd : Int), zu (n : Int)] 195))) (fix_next r2.mem.fresh (.cells #[zi (kd : Int), zu (n : Int)] 195) rfl)))
     clear r2 g2 q1 q4
     generalize hW:w2.alloc _=W at *)
  obtain⟨r3,g3,f3⟩:=HZ.out;have s0:=f3.cell 0 (v:=zi (kd:Int)) rfl;have s1:=f3.cell 1 (v:=zu (n:Int)) rfl;obtain⟨d0,d1,d2,h0,h1,h3,t0⟩:=HB.out W r3 g3;clear f3 r3 g3 hW hq q2;have hn2:=HN2.out;clear HN2
  by_cases k1:kd=1
  · have fa1:((kd:Int)==1)=true:=by simp<;>omega
    have fa2:((kd:Int)=1)=True:=by simp<;>omega
    have fa3:(kd=1)=True:=by simp<;>omega
    have fa4:(kd==1)=true:=by simp<;>omega
    have fa5:((kd:Int) !=1)=false:=by simp<;>omega
    obtain⟨fe1,fe2,fe3,fe4,fe5⟩:=zeF (x:=kd) (c:=2) (ci:=2) (by omega)
    by_cases hna:n≤ha
    · have HE:=zH (HRUN.out.trans (if_pos ⟨k1,hna⟩))
      obtain⟨fb1,fb2,fb3,fb4⟩:=zmt (x:=n) (c:=ha) (xi:=(n:Int)) (ci:=(ha:Int)) (by omega);subst k1;clear hna;go_wp2_with fail
      go_quiet (fail)
      go_wp2_with (go_at_call 192;refine (HOld.out _ (HZ.out.1.drewN _) (HZ.out.2.1.trans (Grow.drewN _ _ _))).mono ?_;rintro e w4 ⟨A2,v,rfl,p1,p2,p3,p4⟩);go_ret;rw[HE.out];exact⟨A2,v,rfl,p1,(HZ.out.2.1.trans (Grow.drewN _ _ _)).trans p2,p3,p4⟩
    · have HE:=zH ((HRUN.out.trans (if_neg (fun h=>hna h.2))).trans (if_pos (Or.inl (by omega))))
      obtain⟨fb1,fb2,fb3,fb4⟩:=zmf (x:=n) (c:=ha) (xi:=(n:Int)) (ci:=(ha:Int)) (by omega);subst k1;clear hna;go_wp2_with fail
      go_quiet (fail)
      go_wp2_with fail
      go_quiet (fail)
      go_wp2_with (go_at_call 203;refine (HSeen.out _ (HZ.out.1.drewN _) (HZ.out.2.1.trans (Grow.drewN _ _ _))).mono ?_;rintro e w4 ⟨A2,v,rfl,p1,p2,p3,p4⟩);go_ret;rw[HE.out];exact⟨A2,v,rfl,p1,(HZ.out.2.1.trans (Grow.drewN _ _ _)).trans p2,p3,p4⟩
  · have HE0:=zH (HRUN.out.trans (if_neg (fun h=>k1 h.1)))
    obtain⟨fa1,fa2,fa3,fa4,fa5⟩:=zeF (x:=kd) (c:=1) (ci:=1) (by omega)
    by_cases k2:kd=2
    · have fe1:((kd:Int)==2)=true:=by simp<;>omega
      have fe2:((kd:Int)=2)=True:=by simp<;>omega
      have fe3:(kd=2)=True:=by simp<;>omega
      have fe4:(kd==2)=true:=by simp<;>omega
      have fe5:((kd:Int) !=2)=false:=by simp<;>omega
      have hn5:=hn2 k2;have ew:IntKind.i64.wrap (n:Int)=(n:Int):=by rw[IntKind.wrap_i64];omega
      by_cases hni:n=tid
      · have HE:=zH (HE0.out.trans (if_pos (Or.inr hni)))
        obtain⟨fb1,fb2,fb3,fb4,fb5⟩:=zeT (x:=n) (c:=tid) (ci:=(tid:Int)) (by omega);subst k2;clear k1 hni hn5;go_wp2_with fail
        go_quiet (fail)
        go_wp2_with fail
        go_quiet (fail)
        go_wp2_with (go_at_call 203;refine (HSeen.out _ (HZ.out.1.drewN _) (HZ.out.2.1.trans (Grow.drewN _ _ _))).mono ?_;rintro e w4 ⟨A2,v,rfl,p1,p2,p3,p4⟩);go_ret;rw[HE.out];exact⟨A2,v,rfl,p1,(HZ.out.2.1.trans (Grow.drewN _ _ _)).trans p2,p3,p4⟩
      · have HE:=zH (HE0.out.trans (if_neg (by omega)))
        obtain⟨fb1,fb2,fb3,fb4,fb5⟩:=zeF (x:=n) (c:=tid) (ci:=(tid:Int)) (by omega);subst k2;clear k1 hni hn5;go_wp2_with fail
        go_quiet (fail)
        go_wp2_with fail
        go_quiet (fail)
        go_wp2_with (go_at_call 204;refine (HEnder.out _ (HZ.out.1.drewN _) (HZ.out.2.1.trans (Grow.drewN _ _ _))).mono ?_;rintro e w4 ⟨A2,v,rfl,p1,p2,p3,p4⟩);go_ret;rw[HE.out];exact⟨A2,v,rfl,p1,(HZ.out.2.1.trans (Grow.drewN _ _ _)).trans p2,p3,p4⟩
    · have HE:=zH (HE0.out.trans (if_pos (Or.inl k2)))
      obtain⟨fe1,fe2,fe3,fe4,fe5⟩:=zeF (x:=kd) (c:=2) (ci:=2) (by omega);clear k1 k2;go_wp2_with fail
      go_quiet (fail)
      go_wp2_with fail
      go_quiet (fail)
      go_wp2_with (go_at_call 203;refine (HSeen.out _ (HZ.out.1.drewN _) (HZ.out.2.1.trans (Grow.drewN _ _ _))).mono ?_;rintro e w4 ⟨A2,v,rfl,p1,p2,p3,p4⟩);go_ret;rw[HE.out];exact⟨A2,v,rfl,p1,(HZ.out.2.1.trans (Grow.drewN _ _ _)).trans p2,p3,p4⟩
theorem k_own {A:Book} {σ:St} {w:World} (hR:Rep A σ w) (s:Nat) (t:Txn) (ht:σ.txns.getD s none=some t) (link:Nat) (hv:VL σ link) (hx:σ.word (wslot link 1)<18446744073709551616) (hcnt:σ.count<4000000000000000000) (b0 b1 b2 b3:Nat)
 (B0:Box A.L w b0 (.pointer (some ⟨A.be,0,none⟩))) (B1:Box A.L w b1 (zu (link:Int))) (B2:Box A.L w b2 (.pointer (some ⟨A.bt s,0,none⟩))) (B3:Box A.L w b3 (.pointer (some ⟨A.bc s,0,none⟩))):
 Calls Tryz.prog 146 #[.pointer (some ⟨b0,0,none⟩),.pointer (some ⟨b1,0,none⟩),.pointer (some ⟨b2,0,none⟩),.pointer (some ⟨b3,0,none⟩)] w (Ran A w s (σ.run s (.own link))):=by
 have hsl:=hR.sl;have c0:=B0.cell;have c1:=B1.cell;have e2:=hR.z2;have HSl:=zH (slot_at link 1 1 rfl hv.lo (by have:=hv.hi;omega) hv.u (by omega));have HL:Hid (∀ w',Rep A σ w'→Calls Tryz.prog 58 #[.pointer (some ⟨A.ba,0,none⟩),zi ((wslot link 1:Nat):Int)] w' (Did A w' σ.tick (zu (σ.word (wslot link 1):Int)))):=fun w' r=>load_any r (wslot link 1) (wslot_lt hR hv.lo hv.hi (by omega)) hcnt
 have HKK:Hid (∀ w',Rep A σ.tick w'→Grow A.L w A.L w'→w'.cell? ⟨b0,0,none⟩=some (.pointer (some ⟨A.be,0,none⟩))∧w'.cell? ⟨b1,0,none⟩=some (zu (link:Int))∧w'.cell? ⟨A.be,2,none⟩=some (.pointer (some ⟨A.ba,0,none⟩))):=fun w' r g=>⟨(B0.grow g).cell,(B1.grow g).cell,r.eng 2 rfl⟩
 have hrd:=rd_any (σ.word (wslot link 1)) hx;have HRD:=zH hrd;have HRd:Hid (Rep A σ w.drew):=hR.drew;have HG:=zG A.L w;have HFX:Hid (Fix A.L (w.drew.alloc (.cells #[zu 0] 22)) w.heap.size (.cells #[zu 0] 22)):=fix_next hR.drew.mem.fresh _ rfl;have x0:=World.new_ne w _ c0;have x1:=World.new_ne w _ c1;have x3:=World.new_ne w _ e2;have hn2:(rd (σ.word (wslot link 1))).1=2→(rd (σ.word (wslot link 1))).2≤65535:=by
  intro h;have:=(rd_small (σ.word (wslot link 1)) hx).2.1 h;omega
 have hrun:σ.run s (.own link)=if (rd (σ.word (wslot link 1))).1=3 then (σ.tick,some (.claim link (σ.word (wslot link 1)))) else if (rd (σ.word (wslot link 1))).1=2 then (σ.tick,some (.ownTxn link (σ.word (wslot link 1)) (rd (σ.word (wslot link 1))).2)) else (σ.tick,some (.abort 14 2)):=by
  simp only[St.run]
 have HRUN:=zH hrun;have HN2:=zH hn2;generalize σ.run s (.own link)=rr at*;have hl0:A.L w.heap.size=none:=hR.mem.fresh _ (Nat.le_refl _);have HSET:Hid (∀ w',Rep A σ.tick w'→Grow A.L w A.L w'→Rep A σ.tick (w'.setCell ⟨w.heap.size,0,none⟩ (zu (σ.word (wslot link 1):Int)))∧Grow A.L w A.L (w'.setCell ⟨w.heap.size,0,none⟩ (zu (σ.word (wslot link 1):Int)))):=fun w' r g=>hR.setNew r g rfl rfl (a:=⟨w.heap.size,0,none⟩) (Nat.le_refl _) hl0 (zu (σ.word (wslot link 1):Int))
 have HB:Hid (∀ w1,Rep A σ.tick w1→Grow A.L w A.L w1→w1.cell? ⟨b0,0,none⟩=some (.pointer (some ⟨A.be,0,none⟩))∧w1.cell? ⟨b1,0,none⟩=some (zu (link:Int))∧w1.cell? ⟨b2,0,none⟩=some (.pointer (some ⟨A.bt s,0,none⟩))∧w1.cell? ⟨b3,0,none⟩=some (.pointer (some ⟨A.bc s,0,none⟩))):=fun w1 q g=>⟨(B0.grow g).cell,(B1.grow g).cell,(B2.grow g).cell,(B3.grow g).cell⟩
 have HX:=zH (zA B0 (zA B1 (zA B2 B3)));have HAb:Hid (∀ w1,Rep A σ.tick w1→Calls Tryz.prog 91 #[.pointer (some ⟨A.be,0,none⟩),.pointer (some ⟨A.bt s,0,none⟩),.pointer (some ⟨A.bc s,0,none⟩),zi 14,zi 2] w1 (Tells A w1 s (σ.tick,.abort 14 2))):=fun w1 q=>abort_any q s 14 2
 have HCl:Hid (∀ (x:Nat) w1,Rep A σ.tick w1→Calls Tryz.prog 147 #[.pointer (some ⟨A.be,0,none⟩),.pointer (some ⟨A.bt s,0,none⟩),.pointer (some ⟨A.bc s,0,none⟩),zu (link:Int),zu (x:Int)] w1 (Tells A w1 s (σ.tick,.claim link x))):=fun x w1 q=>claim_any q s link x
 clear hR hcnt hv hx hrd hrun ht hsl B0 B1 B2 B3 hl0 hn2;generalize (rd (σ.word (wslot link 1))).1=kd at*;generalize (rd (σ.word (wslot link 1))).2=n at*;generalize σ.word (wslot link 1)=x at*;go_enter Tryz.func146,Tryz.ntmps146;go_wp2_with fail
 go_region_held3 (fun w'=>w'.cell? ⟨b0,0,none⟩=some (.pointer (some ⟨A.be,0,none⟩))∧w'.cell? ⟨b1,0,none⟩=some (zu (link:Int))∧w'.cell? ⟨A.be,2,none⟩=some (.pointer (some ⟨A.ba,0,none⟩)))
  (first|exact⟨c0,c1,e2⟩|assumption|exact HKK.out _ q1 q4|exact HKK.out _ (q1.alloc _) (q4.trans (Grow.alloc _ _ _))|exact HKK.out _ (HSET.out _ q1 q4).1 (HSET.out _ q1 q4).2|go_keep)
  (first|(go_at_call 72;refine (HSl.out _).mono ?_;rintro e w' ⟨rfl,rfl⟩)|(go_at_call 58;refine (HL.out _ HRd.out).mono ?_;rintro e w1 ⟨rfl,q1,q2⟩;have q4:=HG.out.trans q2)|(go_at_call 58;refine (HL.out _ (HRd.out.alloc _)).mono ?_;rintro e w1 ⟨rfl,q1,q2⟩;have q4:=(HG.out.trans (Grow.alloc _ _ _)).trans q2;have FX:=zH (HFX.out.grow q2);have nb:=FX.out.cell 0 (v:=zu 0) rfl;have nz:=FX.out.frozen 0))
 all_goals
  rename_i hHeld;clear hHeld x0 x1 x3 c0 c1 e2
  first
  | (have HZ := zH (zA (HSET.out _ q1 q4).1 (zA (HSET.out _ q1 q4).2 (FX.out.setSame (zu (x : Int)))))
     clear FX nb nz q1 q4
     generalize hW:World.setCell _ _ _=W at *)
  | (have HZ := zH (zA (q1.alloc (.cells #[zu (x : Int)] 22)) (zA (q4.trans (Grow.alloc _ _ (.cells #[zu (x : Int)] 22))) (fix_next q1.mem.fresh (.cells #[zu (x : Int)] 22) rfl)))
     clear q1 q4
     generalize hW:w1.alloc _=W at *)
  have s5:=HZ.out.2.2.cell 0 (v:=zu (x:Int)) rfl;clear q2 hW;have hn2:=HN2.out;clear HN2
  by_cases k3:kd=3
  · have HE:=zH (HRUN.out.trans (if_pos k3))
    obtain⟨fa1,fa2,fa3,fa4,fa5⟩:=zeT (x:=kd) (c:=3) (ci:=3) (by omega);subst k3;clear hn2;go_wp2_with (first|(go_at_call 95;refine (HRD.out _).mono ?_;rintro e w2 ⟨rfl,hq⟩;have gq:=Grow.below (L:=A.L) hq;obtain⟨r3,g3,f3⟩:=allocs1 (HZ.out.1.below hq) #[zi (3:Int),zu (n:Int)] 195;have s0:=f3.cell 0 (v:=zi (3:Int)) rfl;have s1:=f3.cell 1 (v:=zu (n:Int)) rfl;have g4:=(HZ.out.2.1.trans gq).trans g3;have s5':=((HZ.out.2.2.grow gq).grow g3).cell 0 (v:=zu (x:Int)) rfl;obtain⟨d0,d1,d2,d3⟩:=HB.out _ r3 g4;have HF:=zH (zA r3 (zA g4 ((HZ.out.2.2.grow gq).grow g3)));clear r3 g3 f3 gq g4 hq)|(go_at_call 147;refine (HCl.out x _ HF.out.1).mono ?_;rintro e w4 ⟨A2,v,rfl,p1,p2,p3,p4⟩));go_ret;rw[HE.out];exact⟨A2,v,rfl,p1,HF.out.2.1.trans p2,p3,p4⟩
  · have HE0:=zH (HRUN.out.trans (if_neg k3))
    obtain⟨fa1,fa2,fa3,fa4,fa5⟩:=zeF (x:=kd) (c:=3) (ci:=3) (by omega)
    by_cases k2:kd=2
    · have HE:=zH (HE0.out.trans (if_pos k2))
      have hn5:=hn2 k2;have ew:IntKind.i64.wrap (n:Int)=(n:Int):=by rw[IntKind.wrap_i64];omega
      obtain⟨fb1,fb2,fb3,fb4,fb5⟩:=zeT (x:=kd) (c:=2) (ci:=2) (by omega);subst k2;clear hn2 hn5 k3;go_wp2_with (go_at_call 95;refine (HRD.out _).mono ?_;rintro e w2 ⟨rfl,hq⟩;have gq:=Grow.below (L:=A.L) hq;obtain⟨r3,g3,f3⟩:=allocs1 (HZ.out.1.below hq) #[zi (2:Int),zu (n:Int)] 195;have s0:=f3.cell 0 (v:=zi (2:Int)) rfl;have s1:=f3.cell 1 (v:=zu (n:Int)) rfl;have g4:=(HZ.out.2.1.trans gq).trans g3;have s5':=((HZ.out.2.2.grow gq).grow g3).cell 0 (v:=zu (x:Int)) rfl;obtain⟨d0,d1,d2,d3⟩:=HB.out _ r3 g4;have HF:=zH (zA r3 (zA g4 ((HZ.out.2.2.grow gq).grow g3)));clear r3 g3 f3 gq g4 hq);obtain⟨r5,g5,f5⟩:=allocs1 HF.out.1 #[zi (n:Int)] 3;rw[size_alloc1] at f5;have gg:=HF.out.2.1.trans g5;have HY:=zH (zA r5 (zA gg (zA f5 (HF.out.2.2.grow g5))));go_ret;rw[HE.out];obtain⟨X0,X1,X2,X3⟩:=HX.out;obtain⟨r5,gg,f5,f6⟩:=HY.out;exact⟨A,_,rfl,r5,gg,Stay.refl _ _,_,_,_,_,_,_,rfl,X0.grow gg,f5.box,X2.grow gg,X3.grow gg,X1.grow gg,f6.box⟩
    · have HE:=zH (HE0.out.trans (if_neg k2))
      obtain⟨fb1,fb2,fb3,fb4,fb5⟩:=zeF (x:=kd) (c:=2) (ci:=2) (by omega);clear k3 k2 hn2;go_wp2_with (first|(go_at_call 95;refine (HRD.out _).mono ?_;rintro e w2 ⟨rfl,hq⟩;have gq:=Grow.below (L:=A.L) hq;obtain⟨r3,g3,f3⟩:=allocs1 (HZ.out.1.below hq) #[zi (kd:Int),zu (n:Int)] 195;have s0:=f3.cell 0 (v:=zi (kd:Int)) rfl;have s1:=f3.cell 1 (v:=zu (n:Int)) rfl;have g4:=(HZ.out.2.1.trans gq).trans g3;have s5':=((HZ.out.2.2.grow gq).grow g3).cell 0 (v:=zu (x:Int)) rfl;obtain⟨d0,d1,d2,d3⟩:=HB.out _ r3 g4;have HF:=zH (zA r3 (zA g4 ((HZ.out.2.2.grow gq).grow g3)));clear r3 g3 f3 gq g4 hq)|(go_at_call 91;refine (HAb.out _ HF.out.1).mono ?_;rintro e w4 ⟨A2,v,rfl,p1,p2,p3,p4⟩));go_ret;rw[HE.out];exact⟨A2,v,rfl,p1,HF.out.2.1.trans p2,p3,p4⟩
theorem k_free {A:Book} {σ:St} {w:World} (hR:Rep A σ w) (s:Nat) (t:Txn) (ht:σ.txns.getD s none=some t) (link head at_:Nat) (hv0:link=0∨VL σ link) (hva:VL σ at_) (hp:PoolOk σ) (hx:σ.word (wslot at_ 0)<18446744073709551616) (hcnt:σ.count<4000000000000000000) (b0 b1 b2 b3 b4 b5:Nat)
 (B0:Box A.L w b0 (.pointer (some ⟨A.be,0,none⟩))) (B1:Box A.L w b1 (zu (at_:Int))) (B2:Box A.L w b2 (.pointer (some ⟨A.bt s,0,none⟩))) (B3:NextBox (kp A σ s) A.L w b3 link head at_) (B4:Box A.L w b4 (.pointer (some ⟨A.bc s,0,none⟩))) (B5:Box A.L w b5 (zu (link:Int))):
 Calls Tryz.prog 163 #[.pointer (some ⟨b0,0,none⟩),.pointer (some ⟨b1,0,none⟩),.pointer (some ⟨b2,0,none⟩),.pointer (some ⟨b3,0,none⟩),.pointer (some ⟨b4,0,none⟩),.pointer (some ⟨b5,0,none⟩)] w (Ran A w s (σ.run s (.free link head at_))):=by
 have hsl:=hR.sl;obtain⟨nv,X3,m0,m1,m2,m3,m4,m5,hnv,N0,N1,N2,N3,N4,N5⟩:=B3;have c0:=B0.cell;have c1:=B1.cell;have e2:=hR.z2;have HSl:=zH (slot_at at_ 0 0 rfl hva.lo (by have:=hva.hi;omega) hva.u (by omega));have HL:Hid (∀ w',Rep A σ w'→Calls Tryz.prog 58 #[.pointer (some ⟨A.ba,0,none⟩),zi ((wslot at_ 0:Nat):Int)] w' (Did A w' σ.tick (zu (σ.word (wslot at_ 0):Int)))):=fun w' r=>load_any r (wslot at_ 0) (wslot_lt hR hva.lo hva.hi (by omega)) hcnt
 have HKK:Hid (∀ w',Rep A σ.tick w'→Grow A.L w A.L w'→w'.cell? ⟨b0,0,none⟩=some (.pointer (some ⟨A.be,0,none⟩))∧w'.cell? ⟨b1,0,none⟩=some (zu (at_:Int))∧w'.cell? ⟨A.be,2,none⟩=some (.pointer (some ⟨A.ba,0,none⟩))):=fun w' r g=>⟨(B0.grow g).cell,(B1.grow g).cell,r.eng 2 rfl⟩
 have hrd:=rd_any (σ.word (wslot at_ 0)) hx;have HRD:=zH hrd;have HRd:Hid (Rep A σ w.drew):=hR.drew;have HG:=zG A.L w;have HFX:Hid (Fix A.L (w.drew.alloc (.cells #[zi 0,zu 0] 195)) w.heap.size (.cells #[zi 0,zu 0] 195)):=fix_next hR.drew.mem.fresh _ rfl;have x0:=World.new_ne w _ c0;have x1:=World.new_ne w _ c1;have x3:=World.new_ne w _ e2;generalize hkd:(rd (σ.word (wslot at_ 0))).1=kd at*;generalize hn:(rd (σ.word (wslot at_ 0))).2=n at*;have HST:Hid (∀ w2 b,Rep A σ.tick w2→Grow A.L w A.L w2→w.heap.size≤b→Fix A.L w2 b (.cells #[zi 0,zu 0] 195)→Rep A σ.tick ((w2.setCell ⟨b,0,none⟩ (zi (kd:Int))).setCell ⟨b,1,none⟩ (zu (n:Int)))∧Grow A.L w A.L ((w2.setCell ⟨b,0,none⟩ (zi (kd:Int))).setCell ⟨b,1,none⟩ (zu (n:Int)))∧Fix A.L ((w2.setCell ⟨b,0,none⟩ (zi (kd:Int))).setCell ⟨b,1,none⟩ (zu (n:Int))) b (.cells #[zi (kd:Int),zu (n:Int)] 195)):=fun w2 b r g hb fx=>hR.stamp r g rfl hb fx _ _
 have HSZ:Hid (∀ w1,Grow A.L w A.L w1→w.heap.size≤w1.heap.size):=fun w1 g=>g.size
 have HB:Hid (∀ w1,Rep A σ.tick w1→Grow A.L w A.L w1→w1.cell? ⟨b0,0,none⟩=some (.pointer (some ⟨A.be,0,none⟩))∧w1.cell? ⟨b2,0,none⟩=some (.pointer (some ⟨A.bt s,0,none⟩))∧w1.cell? ⟨b3,0,none⟩=some nv∧w1.cell? ⟨b4,0,none⟩=some (.pointer (some ⟨A.bc s,0,none⟩))∧w1.cell? ⟨b5,0,none⟩=some (zu (link:Int))∧w1.cell? ⟨A.bt s,3,none⟩=some (zu (t.begin_:Int))):=
  fun w1 q g=>⟨(B0.grow g).cell,(B2.grow g).cell,(X3.grow g).cell,(B4.grow g).cell,(B5.grow g).cell,q.txn (s:=s) (t:=t) ht 3 rfl⟩
 have HLost:Hid (∀ w1,Rep A σ.tick w1→Grow A.L w A.L w1→Calls Tryz.prog 164 #[.pointer (some ⟨A.be,0,none⟩),.pointer (some ⟨A.bt s,0,none⟩),.pointer (some ⟨A.bc s,0,none⟩),zu (link:Int)] w1 (Tells A w1 s (σ.tick.lost link))):=fun w1 q g=>lost_any q s link (hv0.imp (fun h=>h) fun h=>⟨h.lo,h.hi,h.u⟩) ⟨hp.n,hp.free,hp.tag,hp.worn⟩
 have hrun:σ.run s (.free link head at_)=if kd=1∧n≤t.begin_ then (σ.tick,some (.next link head at_)) else if kd≠2 then ((σ.tick.lost link).1,some (σ.tick.lost link).2) else (σ.tick,some (.freeTxn link head at_ n)):=by
  have e:σ.tick.t s=t:=txn_get ht;simp only[St.run,hkd,hn,e]
 have HX:Hid (Box A.L w b0 (.pointer (some ⟨A.be,0,none⟩))∧Box A.L w b1 (zu (at_:Int))∧Box A.L w b2 (.pointer (some ⟨A.bt s,0,none⟩))∧Box A.L w b3 nv∧Box A.L w b4 (.pointer (some ⟨A.bc s,0,none⟩))∧Box A.L w b5 (zu (link:Int))∧Box A.L w m0 (ptr (kp A σ s).e)∧Box A.L w m1 (ptr (kp A σ s).t)∧Box A.L w m2 (ptr (kp A σ s).c)∧Box A.L w m3 (u64 link)∧Box A.L w m4 (u64 head)∧Box A.L w m5 (u64 at_)):=⟨B0,B1,B2,X3,B4,B5,N0,N1,N2,N3,N4,N5⟩
 subst hnv;have HRUN:=zH hrun;generalize σ.run s (.free link head at_)=rr at*;clear hR hcnt hva hv0 hp hx hrd hkd hn hrun ht hsl B0 B1 B2 X3 B4 B5 N0 N1 N2 N3 N4 N5;generalize t.begin_=bg at*;generalize σ.word (wslot at_ 0)=x at*;go_enter Tryz.func163,Tryz.ntmps163;go_wp2_with fail
 go_region_held3 (fun w'=>w'.cell? ⟨b0,0,none⟩=some (.pointer (some ⟨A.be,0,none⟩))∧w'.cell? ⟨b1,0,none⟩=some (zu (at_:Int))∧w'.cell? ⟨A.be,2,none⟩=some (.pointer (some ⟨A.ba,0,none⟩)))
  (first|exact⟨c0,c1,e2⟩|assumption|exact HKK.out _ q1 q4|exact HKK.out _ (q1.alloc _) (q4.trans (Grow.alloc _ _ _))|exact HKK.out _ r2 g2|exact HKK.out _ (r2.alloc _) (g2.trans (Grow.alloc _ _ _))|exact HKK.out _ (HST.out _ _ r2 g2 hb FX.out).1 (HST.out _ _ r2 g2 hb FX.out).2.1|go_keep)
  (first|(go_at_call 72;refine (HSl.out _).mono ?_;rintro e w' ⟨rfl,rfl⟩)|(go_at_call 58;refine (HL.out _ HRd.out).mono ?_;rintro e w1 ⟨rfl,q1,q2⟩;have q4:=HG.out.trans q2)|(go_at_call 58;refine (HL.out _ (HRd.out.alloc _)).mono ?_;rintro e w1 ⟨rfl,q1,q2⟩;have q4:=(HG.out.trans (Grow.alloc _ _ _)).trans q2;have FX1:=zH (HFX.out.grow q2))|(go_at_call 95;refine (HRD.out _).mono ?_;rintro e w2 ⟨rfl,hq⟩;have r2:=q1.below hq;have g2:=q4.trans (Grow.below hq);have FX:=zH (FX1.out.grow (Grow.below hq));have hb:=Nat.le_refl w.heap.size;have nb0:=FX.out.cell 0 (v:=zi 0) rfl;have nb1:=FX.out.cell 1 (v:=zu 0) rfl;have nz0:=FX.out.frozen 0;have nz1:=FX.out.frozen 1)|(go_at_call 95;refine (HRD.out _).mono ?_;rintro e w2 ⟨rfl,hq⟩;have r2:=(q1.alloc _).below hq;have g2:=(q4.trans (Grow.alloc A.L _ _)).trans (Grow.below hq);have FX:=zH ((fix_next q1.mem.fresh (.cells #[zi 0,zu 0] 195) rfl).grow (Grow.below (L:=A.L) hq));have hb:=HSZ.out _ q4;have nb0:=FX.out.cell 0 (v:=zi 0) rfl;have nb1:=FX.out.cell 1 (v:=zu 0) rfl;have nz0:=FX.out.frozen 0;have nz1:=FX.out.frozen 1)|(go_at_call 95;refine (HRD.out _).mono ?_;rintro e w2 ⟨rfl,hq⟩;have r2:=q1.below hq;have g2:=q4.trans (Grow.below hq)))
 all_goals
  rename_i hHeld;clear hHeld x0 x1 x3 c0 c1 e2
  first
  | (have HZ := zH (HST.out _ _ r2 g2 hb FX.out)
     clear FX hb nb0 nb1 nz0 nz1 r2 g2 q1 q4
     generalize hW:(World.setCell _ _ _).setCell _ _=W at *)
  | (have HZ := zH (zA (r2.alloc (.cells #[zi (kd : Int), zu (n : Int)] 195)) (zA (g2.trans (Grow.alloc _ _ (.cells #[zi (kd : Int), zu (n : Int)] 195))) (fix_next r2.mem.fresh (.cells #[zi (kd : Int), zu (n : Int)] 195) rfl)))
     clear r2 g2 q1 q4
     generalize hW:w2.alloc _=W at *)
  obtain⟨r3,g3,f3⟩:=HZ.out;have s0:=f3.cell 0 (v:=zi (kd:Int)) rfl;have s1:=f3.cell 1 (v:=zu (n:Int)) rfl;obtain⟨d0,d2,d3,d4,d5,t3⟩:=HB.out W r3 g3;clear f3 r3 g3 hW hq q2
  by_cases k1:kd=1
  · have fa1:((kd:Int)==1)=true:=by simp<;>omega
    have fa2:((kd:Int)=1)=True:=by simp<;>omega
    have fa3:(kd=1)=True:=by simp<;>omega
    have fa4:(kd==1)=true:=by simp<;>omega
    have fa5:((kd:Int) !=1)=false:=by simp<;>omega
    obtain⟨fe1,fe2,fe3,fe4,fe5⟩:=zeF (x:=kd) (c:=2) (ci:=2) (by omega)
    by_cases hna:n≤bg
    · have HE:=zH (HRUN.out.trans (if_pos ⟨k1,hna⟩))
      obtain⟨fb1,fb2,fb3,fb4⟩:=zmt (x:=n) (c:=bg) (xi:=(n:Int)) (ci:=(bg:Int)) (by omega);subst k1;clear hna;go_wp2_with fail
      go_quiet (fail)
      go_wp2_with fail;go_ret;rw[HE.out];obtain⟨X0,X1,X2,X3,X4,X5,N0,N1,N2,N3,N4,N5⟩:=HX.out;have gg:=fun n=>HZ.out.2.1.trans (Grow.drewN _ _ n)
      exact⟨A,_,rfl,HZ.out.1.drewN _,gg _,Stay.refl _ _,_,_,_,_,_,_,rfl,N0.grow (gg _),N1.grow (gg _),N2.grow (gg _),N3.grow (gg _),N4.grow (gg _),N5.grow (gg _)⟩
    · have HE:=zH ((HRUN.out.trans (if_neg (fun h=>hna h.2))).trans (if_pos (by omega)))
      obtain⟨fb1,fb2,fb3,fb4⟩:=zmf (x:=n) (c:=bg) (xi:=(n:Int)) (ci:=(bg:Int)) (by omega);subst k1;clear hna;go_wp2_with fail
      go_quiet (fail)
      go_wp2_with (go_at_call 164;refine (HLost.out _ (HZ.out.1.drewN _) (HZ.out.2.1.trans (Grow.drewN _ _ _))).mono ?_;rintro e w4 ⟨A2,v,rfl,p1,p2,p3,p4⟩);go_ret;rw[HE.out];exact⟨A2,v,rfl,p1,(HZ.out.2.1.trans (Grow.drewN _ _ _)).trans p2,p3,p4⟩
  · have HE0:=zH (HRUN.out.trans (if_neg (fun h=>k1 h.1)))
    obtain⟨fa1,fa2,fa3,fa4,fa5⟩:=zeF (x:=kd) (c:=1) (ci:=1) (by omega)
    by_cases k2:kd=2
    · have fe1:((kd:Int)==2)=true:=by simp<;>omega
      have fe2:((kd:Int)=2)=True:=by simp<;>omega
      have fe3:(kd=2)=True:=by simp<;>omega
      have fe4:(kd==2)=true:=by simp<;>omega
      have fe5:((kd:Int) !=2)=false:=by simp<;>omega
      have HE:=zH (HE0.out.trans (if_neg (fun h=>h k2)));subst k2;clear k1;go_wp2_with fail
      go_quiet (fail)
      go_wp2_with fail;go_ret;rw[HE.out];obtain⟨X0,X1,X2,X3,X4,X5,N0,N1,N2,N3,N4,N5⟩:=HX.out;have gd:=fun n=>Grow.drewN A.L W n
      have gg:=fun n=>HZ.out.2.1.trans (gd n)
      exact⟨A,_,rfl,HZ.out.1.drewN _,gg _,Stay.refl _ _,_,_,_,_,_,_,rfl,X0.grow (gg _),⟨_,HZ.out.2.2.grow (gd _)⟩,X2.grow (gg _),⟨_,X3.grow (gg _),_,_,_,_,_,_,rfl,N0.grow (gg _),N1.grow (gg _),N2.grow (gg _),N3.grow (gg _),N4.grow (gg _),N5.grow (gg _)⟩,X4.grow (gg _),X5.grow (gg _)⟩
    · have HE:=zH (HE0.out.trans (if_pos k2))
      obtain⟨fe1,fe2,fe3,fe4,fe5⟩:=zeF (x:=kd) (c:=2) (ci:=2) (by omega);clear k1 k2;go_wp2_with fail
      go_quiet (fail)
      go_wp2_with (go_at_call 164;refine (HLost.out _ (HZ.out.1.drewN _) (HZ.out.2.1.trans (Grow.drewN _ _ _))).mono ?_;rintro e w4 ⟨A2,v,rfl,p1,p2,p3,p4⟩);go_ret;rw[HE.out];exact⟨A2,v,rfl,p1,(HZ.out.2.1.trans (Grow.drewN _ _ _)).trans p2,p3,p4⟩
end Go.Proofs.YtpkenfnmkpmapaaGreat.Em
