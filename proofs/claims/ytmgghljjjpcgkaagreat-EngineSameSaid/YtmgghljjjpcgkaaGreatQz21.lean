import Derived.Test.YtmgghljjjpcgkaaGreatQz19
import Derived.Lib.AppendZerosOnto
import Derived.Test.YtmgghljjjpcgkaaGreatQz20
namespace Go.Proofs.YtmgghljjjpcgkaaGreat.Em
open Go.ChangeShapes Go.WideShapes Go.ChangeAt Go.RowKit En
set_option linter.unusedVariables false
set_option linter.unusedSimpArgs false
set_option maxRecDepth 100000
set_option maxHeartbeats 1600000
def issueSt (σ:St) (s:Nat) (o:En.Op) (t:Txn):St:=if opEnds o then (({σ with seq:=σ.seq+1}:St).setC s (callOf o (σ.seq+1))) else (({(σ.setT s {t with ops:=t.ops+1}) with seq:=σ.seq+1}:St).setC s (callOf o (σ.seq+1)))
def issueOk (σ:St) (s:Nat) (o:En.Op):Option St:=
 match σ.txns.getD s none with
 |some t=>
  if opOk o=true∧(σ.calls.getD s none).isNone=true∧(t.ops<12∨(opEnds o=true∧t.ops<1000000))∧σ.seq<4000000000000000000∧s<σ.calls.length∧s<σ.txns.length∧okFirst (issueSt σ s o t) s=true then
   match (issueSt σ s o t).first s with
   |(σ4,k)=>
    match σ4.calls.getD s none with
    |some c4=>if okOthers σ σ4 s=true then some (σ4.setC s {c4 with k:=some k}) else none
    |none=>none
  else none
 |none=>none
theorem setC_at {σ:St} {s:Nat} (c:Cal) (h:s<σ.calls.length):(σ.setC s c).calls.getD s none=some c:=by
 unfold St.setC;simp[List.getD_eq_getElem?_getD,List.getElem?_set,h]
theorem setT_at {σ:St} {s:Nat} (t:Txn) (h:s<σ.txns.length):(σ.setT s t).txns.getD s none=some t:=by
 unfold St.setT;simp[List.getD_eq_getElem?_getD,List.getElem?_set,h]
theorem issue_to {σ σ1:St} {s:Nat} {o:En.Op} (hs:s<8) (h:issueOk σ s o=some σ1):IssueTo σ s o σ1 0:=by
 intro A w hL;unfold issueOk at h
 split at h
 · rename_i t ht
   split at h
   · rename_i hh
     obtain⟨ho,hn,hop,hsq,hcl,htl,hof⟩:=hh;have hn':σ.calls.getD s none=none:=by simpa using hn
     split at h
     rename_i σ4 k hf
     split at h
     · rename_i c4 hc4
       split at h
       · rename_i hoth
         obtain rfl:=Option.some.inj h;have hcq:=okOthers_iff hoth;unfold issueSt at hof hf
         cases he:opEnds o with
         |true=>
          rw[he] at hof hf;simp only[if_true] at hof hf;exact issue_ends hL s hs t ht o ho he hn' (by omega) hsq (firstTo (t:=t) ht (setC_at _ hcl) hof) σ4 k hf c4 hc4 hcq
         |false=>
          rw[he] at hof hf;simp only[Bool.false_eq_true,if_false] at hof hf;exact issue_other hL s hs t ht o ho he hn' (hop.resolve_right (fun h=>by rw[he] at h;cases h.1)) hsq (firstTo (t:={t with ops:=t.ops+1}) (setT_at _ htl) (setC_at _ hcl) hof) σ4 k hf c4 hc4 hcq
       · cases h
     · cases h
   · cases h
 · cases h
def BeginTo (σ:St) (s level:Nat) (σ1:St) (id:Nat):Prop:=∀ A w,Live A σ w→Calls Tryz.prog 21 #[.pointer (some ⟨A.be,0,none⟩),zi (s:Int),zi (level:Int)] w (Begun A w σ1 id)
def beginSt (σ:St) (s level:Nat) (σ2:St):St:=
 ((((({σ2 with made:=σ.made+1}:St).cas 0 (σ.word 0) (clockW (timeOf (σ.word 0)+1) 0)).put (σ.place (σ.made+1)) (pack 1 0)).put (1+s) (timeOf (σ.word 0)+1)).setT s (txnOf (σ.made+1) level (timeOf (σ.word 0)+1))).event {kind:=1,t:=σ.made+1,n:=timeOf (σ.word 0)+1,op:=⟨0,0,0,level⟩}
def beginOk (σ:St) (s level:Nat):Option (St×Nat):=
 if 1≤level∧level≤3∧(σ.txns.getD s none).isNone=true∧(σ.calls.getD s none).isNone=true∧σ.made<2000∧σ.word 0<18446744073709551616∧timeOf (σ.word 0)<281474976710000∧timeOf (σ.word 0)<σ.limit∧σ.count<3000000000000000000∧σ.tale.length<1000000 then
  if lastOf (σ.word 0)=0 then some (beginSt σ s level σ.tick,σ.made+1)
  else if lastOf (σ.word 0)≤2000 then some (beginSt σ s level (σ.tick.help (σ.word 0)),σ.made+1)
  else none
 else none
theorem begin_to {σ σ1:St} {s level id:Nat} (hs:s<8) (h:beginOk σ s level=some (σ1,id)):BeginTo σ s level σ1 id:=by
 intro A w hL;unfold beginOk at h
 split at h
 · rename_i hh
   obtain⟨h1,h2,h3,h4,h5,h6,h7,h8,h9,h10⟩:=hh
   split at h
   · rename_i hl
     simp only[Option.some.injEq,Prod.mk.injEq] at h;obtain⟨rfl,rfl⟩:=h;exact begin_new hL s hs level h1 h2 (by simpa using h3) (by simpa using h4) h5 h6 h7 h8 hl h9 h10
   · rename_i hl
     split at h
     · rename_i hl2
       simp only[Option.some.injEq,Prod.mk.injEq] at h;obtain⟨rfl,rfl⟩:=h;exact begin_help hL s hs level h1 h2 (by simpa using h3) (by simpa using h4) h5 h6 h7 h8 ⟨by omega,hl2⟩ h9 h10
     · cases h
 · cases h
theorem FRow.row {L:Lab} {w:World} {size:Nat} {v:Value} {xs:List Value} (h:FRow L w size v xs):Ow.Row w 0 size v xs:=by
 obtain⟨a,n,cap,h1,h2,h3,h4,h5⟩:=h;refine⟨a,n,cap,h1,h2,h3,h4,?_⟩
 rcases h5 with h5|⟨g,off,e1,e2,e3,e4⟩
 · exact .inl h5
 · exact .inr ⟨g,off,e1,Nat.zero_le _,e3,e4⟩
theorem Grow.toBelow {L':Lab} {w w':World} (g:Grow (fun _=>none) w L' w'):Below w.heap.size w w':=⟨g.os,g.tape,g.output,g.size,fun b hb=>g.block b hb rfl⟩
theorem status_any {A:Book} {σ:St} {w:World} (hL:Live A σ w) (s:Nat) (hs:s<8):
 Calls Tryz.prog 9 #[.pointer (some ⟨A.be,0,none⟩),zi (s:Int)] w fun e w'=>e=.returned (.agg (statusCs (σ.status s)))∧Below w.heap.size w w':=by
 unfold St.status
 cases ht:σ.txns.getD s none with
 |none=>exact status_none hL.rep s hs ht
 |some t=>
  by_cases he:0<t.end_
  · cases hc:σ.calls.getD s none with
    |none=>
     have h:=status_10 hL s hs t ht he hc;simp only[if_pos he];exact h
    |some c=>
     have h:=status_11 hL s hs t ht he c hc;simp only[if_pos he];exact h
  · cases hc:σ.calls.getD s none with
    |none=>
     have h:=status_00 hL s hs t ht (by omega) hc;simp only[if_neg he];exact h
    |some c=>
     have h:=status_01 hL s hs t ht (by omega) c hc;simp only[if_neg he];exact h
variable {A:Book} {σ:St} {w:World}
def BegunNot (A:Book) (w:World) (σ':St) (er:Nat):Ending→World→Prop:=fun e w'=>∃ A',e=.returned (.tuple #[zi 0,zi (er:Int)])∧Live A' σ' w'∧Grow A.L w A'.L w'∧A'.be=A.be
theorem Live.tick {A:Book} {σ:St} {w w':World} (hL:Live A σ w) (r:Rep A σ.tick w') (g:Grow A.L w A.L w'):Live A σ.tick w':=
 ⟨r,hL.mp,hL.mt,fun s h c hc=>let ⟨e1,k,e2,e3⟩:=hL.call s h c hc;⟨e1,k,e2,(show KRep (kp A σ s) A.L w' (A.vnext s) k from e3.grow g)⟩,hL.idle,hL.sx.keep rfl ⟨rfl,rfl⟩ g⟩
theorem begin_over (hL:Live A σ w) (s:Nat) (hs:s<8) (level:Nat) (hl1:1≤level) (hl2:level≤3) (hn:σ.txns.getD s none=none) (hmd:σ.made<2000) (hx:σ.word 0<18446744073709551616) (hlim:σ.limit≤timeOf (σ.word 0)) (hcnt:σ.count<3000000000000000000):
 Calls Tryz.prog 21 #[.pointer (some ⟨A.be,0,none⟩),zi (s:Int),zi (level:Int)] w (BegunNot A w σ.tick 16):=by
 have hR:=hL.rep;have b1:(s:Int)<8:=by omega
 have b0:(0:Int)≤(s:Int):=by omega
 have hsok:=zH (sessionOk s hs);have hlev:=zH (levelOk level hl1 hl2);have e2:=hR.z2;have v5:=hR.eng (5+s) (engCs_txn A σ hs);rw[show A.tp σ s=.pointer none by unfold Book.tp;rw[hn]] at v5;have v21:w.cell? ⟨A.be,21,none⟩=some (zi (σ.made:Int)):=hR.eng 21 rfl;have d1:decide ((2000:Int)≤(σ.made:Int))=false:=by simp;omega
 have d2:((2000:Int)≤(σ.made:Int))=False:=by simp;omega
 have d3:(2000≤σ.made)=False:=by simp;omega
 have l1:decide ((σ.limit:Int)≤(timeOf (σ.word 0):Int))=true:=by simp;omega
 have l2:((σ.limit:Int)≤(timeOf (σ.word 0):Int))=True:=by simp;omega
 have l3:(σ.limit≤timeOf (σ.word 0))=True:=by simp;omega
 have HLo:=zH (load_i hR 0 0 rfl (by rw[hR.nw];omega) (by omega));have HDr:=zH (fun w'=>drawn_any (σ.word 0) hx w');have H1:Hid (∀ w1,Rep A σ.tick w1→Grow A.L w A.L w1→w1.cell? ⟨A.be,1,none⟩=some (zu (σ.limit:Int))):=fun w1 r g=>r.eng 1 rfl
 have HL0:=zH hL;clear hL hs hl1 hl2 hn hmd hx hlim hcnt hR;go_enter Tryz.func21,Tryz.ntmps21;go_wp2_with (first|(go_at_call 33;refine (hsok.out _).mono ?_;rintro e w' ⟨rfl,rfl⟩)|(go_at_call 44;refine (hlev.out _).mono ?_;rintro e w' ⟨rfl,rfl⟩)|(go_at_call 45;refine HLo.out.mono ?_;rintro e w1 ⟨rfl,q1,q2⟩;have v1:=H1.out w1 q1 q2;have HQ1:=zH (zA q1 q2);clear q1 q2)|(go_at_call 46;refine (HDr.out _).mono ?_;rintro e w' ⟨rfl,rfl⟩))
 go_ret2
 exact⟨A,rfl,HL0.out.tick HQ1.out.1 HQ1.out.2,HQ1.out.2,rfl⟩
theorem begin_taken (hL:Live A σ w) (s:Nat) (hs:s<8) (level:Nat) (hl1:1≤level) (hl2:level≤3) (t:Txn) (ht:σ.txns.getD s none=some t):
 Calls Tryz.prog 21 #[.pointer (some ⟨A.be,0,none⟩),zi (s:Int),zi (level:Int)] w (BegunNot A w σ 9):=by
 have hR:=hL.rep;have b1:(s:Int)<8:=by omega
 have b0:(0:Int)≤(s:Int):=by omega
 have hsok:=zH (sessionOk s hs);have hlev:=zH (levelOk level hl1 hl2);have v5:=hR.eng (5+s) (engCs_txn A σ hs);rw[show A.tp σ s=.pointer (some ⟨A.bt s,0,none⟩) by unfold Book.tp;rw[ht]] at v5;have HL0:=zH hL;clear hL hs hl1 hl2 ht hR;go_enter Tryz.func21,Tryz.ntmps21;go_wp2_with (first|(go_at_call 33;refine (hsok.out _).mono ?_;rintro e w' ⟨rfl,rfl⟩)|(go_at_call 44;refine (hlev.out _).mono ?_;rintro e w' ⟨rfl,rfl⟩))
 go_ret2
 exact⟨A,rfl,HL0.out,Grow.refl _ _,rfl⟩
theorem least_exists {P:Nat→Prop} (h:∃ n,P n):∃ n,P n∧∀ m,m<n→¬ P m:=by
 obtain⟨n,hn⟩:=h
 induction n using Nat.strongRecOn with
 |_ n ih=>
  by_cases hm:∃ m,m<n∧P m
  · obtain⟨m,h1,h2⟩:=hm
    exact ih m h1 h2
  · exact⟨n,hn,fun m h1 h2=>hm ⟨m,h1,h2⟩⟩
open Classical in
noncomputable def leastF (P:Nat→Prop):Nat:=if h:∃ n,P n then Classical.choose (least_exists h) else 0
theorem leastF_spec {P:Nat→Prop} (h:∃ n,P n):P (leastF P):=by
 unfold leastF;rw[dif_pos h];exact (Classical.choose_spec (least_exists h)).1
theorem leastF_le {P:Nat→Prop} {n:Nat} (h:P n):leastF P≤n:=by
 have hh:∃ n,P n:=⟨n,h⟩
 unfold leastF;rw[dif_pos hh]
 rcases Nat.lt_or_ge n (Classical.choose (least_exists hh)) with h1|h1
 · exact absurd h ((Classical.choose_spec (least_exists hh)).2 n h1)
 · exact h1
def okWord (σ:St) (x:Nat):Bool:=decide (x<18446744073709551616)&&((rd x).1 !=2||(decide ((rd x).2≤2000)&&small σ (σ.place (rd x).2)))
def chainOk (σ:St):Nat→Nat→Bool
 |0,_=>false
 |n+1,link=>link==0||(vl σ link&&okWord σ (σ.word (wslot link 0))&&okWord σ (σ.word (wslot link 1))&&((σ.done (σ.word (wslot link 0))&&!σ.done (σ.word (wslot link 1)))||chainOk σ n (σ.word (wslot link 2))))
def okPairs (σ:St):Bool:=(List.range 64).all fun key=>chainOk σ (σ.slots+1) (σ.word (9+key))
def pairsTo (σ:St) (k:Nat):List (Nat×Nat):=(List.range k).filterMap fun key=>(σ.pairAt (σ.slots+1) (σ.word (9+key))).map fun v=>(key,v)
theorem pairsTo_succ (σ:St) (k:Nat):pairsTo σ (k+1)=pairsTo σ k++(match σ.pairAt (σ.slots+1) (σ.word (9+k)) with|some v=>[(k,v)]|none=>[]):=by
 unfold pairsTo;rw[List.range_succ,List.filterMap_append]
 congr 1
 cases h:σ.pairAt (σ.slots+1) (σ.word (9+k))<;>simp[h]
theorem pairsTo_le (σ:St) (k:Nat):(pairsTo σ k).length≤k:=by
 unfold pairsTo;have:=List.length_filterMap_le (fun key=>(σ.pairAt (σ.slots+1) (σ.word (9+key))).map fun v=>(key,v)) (List.range k)
 simpa using this
theorem wp_pair {ops:Array Oper} {rest:List Oper} {o:Oper} {a:Act} {Q:Exit→Act→World→Prop} (w:World) (hgd:o.guard=none) (s x:Operand)
 (ho:o.op=.call {callee:=.builtin .append,args:=#[s,x],argTypes:=#[46,46]})
 (w0:World) (hb:Below w0.heap.size w0 w) (av:Option Addr) (m cap:Nat) (xs:List Value) (hs:a.eval s=.slice av m cap) (hown:w.ownsRow w0.heap.size 120 2 (.slice av m cap) m xs) (hm:m<4000000)
 (t0 t1:Int) (hx:a.eval x=.slice (some ⟨w.heap.size,0,none⟩) 1 1)
 (h:∀ av' cap' w',w'.ownsRow w0.heap.size 120 2 (.slice av' (m+1) cap') (m+1) (xs++[zi t0,zi t1])→Below w0.heap.size w0 w'→wpList Tryz.prog ops Q rest (a.put o.dst (.slice av' (m+1) cap')) w'):
 wpList Tryz.prog ops Q (o::rest) a (w.alloc (.cells #[zi t0,zi t1] 120)):=by
 obtain⟨ii,hii,hz0,hz1,hz2⟩:=info_parts infoP;have hw:=hb.size;have hown':(w.alloc (.cells #[zi t0,zi t1] 120)).ownsRow w0.heap.size 120 2 (.slice av m cap) m xs:=own_same hown fun g hg=>Below.heap_alloc _ _ _ (hown.lt g hg).2
 refine Ow.wpList_append_to _ hgd s x 46 ho w0.heap.size 120 ii _ 2 16 Tryz.underlying46 hii hz0 hz1 hz2 rfl (by decide) (.slice av m cap) m xs hs hown' ⟨w.heap.size,0,none⟩ 1 1 (by omega) [zi t0,zi t1] hx rfl (fun j u hu=>Ow.new_row w [zi t0,zi t1] _ _ rfl j u hu) (by intro u hu;simp at hu;rcases hu with rfl|rfl<;>rfl) (by unfold maxLen;omega) (by omega) (by simp;omega) ?_;intro v' w' q1 q2 q3;obtain⟨av',cap',rfl,_⟩:=Ow.own_form q1;exact h av' cap' w' q1 ((hb.alloc hw _).grown q2 (by simp;omega) (fun g hg=>(hown.lt g hg).1))
theorem done_ok {A:Book} {σ:St} {w w1:World} (hR:Rep A σ w) (hb:Below w.heap.size w w1) {x:Nat} (h:okWord σ x=true):
 Calls Tryz.prog 38 #[.pointer (some ⟨A.be,0,none⟩),zu (x:Int)] w1 fun e w'=>e=.returned (.bool (σ.done x))∧Below w.heap.size w w':=by
 unfold okWord at h;simp only[Bool.and_eq_true,decide_eq_true_eq,Bool.or_eq_true,bne_iff_ne] at h;have hr:=hR.below hb;refine (done_any hr x h.1 fun h2=>?_).mono fun e w' hh=>⟨hh.1,hb.trans (hh.2.mono hb.size)⟩
 obtain⟨h3,h4⟩:=h.2.resolve_left (fun hn=>hn h2);exact⟨by omega,place_lt hR h3,small_iff h4⟩
theorem peek_ok {A:Book} {σ:St} {w w1:World} (hR:Rep A σ w) (hb:Below w.heap.size w w1) (i:Nat) (hi:i<σ.words.length):
 Calls Tryz.prog 36 #[.pointer (some ⟨A.ba,0,none⟩),zi (i:Int)] w1 fun e w'=>e=.returned (zu (σ.word i:Int))∧Below w.heap.size w w':=by
 refine (peek_any (hR.below hb) i hi).mono fun e w' hh=>?_
 obtain⟨h1,n,rfl⟩:=hh;exact⟨h1,hb.trans ⟨rfl,rfl,rfl,Nat.le_refl _,fun _ _=>rfl⟩⟩
theorem pairs_any (hR:Rep A σ w) (hok:okPairs σ=true):
 Calls Tryz.prog 13 #[.pointer (some ⟨A.be,0,none⟩)] w fun e w'=>∃ av cap,e=.returned (.slice av σ.pairs.length cap)∧w'.ownsRow w.heap.size 120 2 (.slice av σ.pairs.length cap) σ.pairs.length (pairCs σ.pairs)∧Below w.heap.size w w':=by
 have hls:σ.pairs=pairsTo σ 64:=rfl;rw[hls];have HRR:=zH (zA hR hok);have HE2:Hid (∀ w',Below w.heap.size w w'→w'.cell? ⟨A.be,2,none⟩=some (.pointer (some ⟨A.ba,0,none⟩))):=fun w' hb=>(hR.below hb).eng 2 rfl
 clear hls hR hok;go_enter Tryz.func13,Tryz.ntmps13;go_wp2
 go_loopw [3,6] (fun l i wr=>∃ k:Nat,k≤64∧i=zi (k:Int)∧Below w.heap.size w wr∧∃ av cap,l=.slice av (pairsTo σ k).length cap∧wr.ownsRow w.heap.size 120 2 l (pairsTo σ k).length (pairCs (pairsTo σ k))) (fun _ i _=>64 - (intOf i).toNat)
 case atStart=>exact⟨0,by omega,rfl,Below.refl _ _,none,0,rfl,rfl,.inl ⟨rfl,rfl⟩⟩
 case round=>
  obtain⟨k,hk,rfl,hb,av,cap,rfl,hown⟩:=hrel
  by_cases hlt:k<64
  · have hR:=HRR.out.1
    have hch:chainOk σ (σ.slots+1) (σ.word (9+k))=true:=by
     have h:=HRR.out.2;unfold okPairs at h;rw[List.all_eq_true] at h;exact h k (List.mem_range.2 hlt)
    have e2:=HE2.out wr hb;have n1:IntKind.i64.wrap ((k:Int)+1)=(k:Int)+1:=by rw[IntKind.wrap_i64];omega
    have n9:IntKind.i64.wrap (9+(k:Int))=9+(k:Int):=by rw[IntKind.wrap_i64];omega
    have HP0 := zH (show Calls Tryz.prog 36 #[.pointer (some ⟨A.ba, 0, none⟩), zi (9 + (k : Int))] wr (fun e w' => e = .returned (zu (σ.word (9 + k) : Int)) ∧ Below wr.heap.size wr w') from by
      have h:=peek_ok (hR.below hb) (Below.refl _ _) (9+k) (by rw[hR.nw];omega)
      rw[show ((9+k:Nat):Int)=9+(k:Int) by omega] at h
      exact h)
    have HK0:=zH (zA hown (zA hch hlt));have hm0:=pairsTo_le σ k;clear hch;go_wp2_with (go_at_call 36;refine HP0.out.mono ?_;rintro e w1 ⟨rfl,hb1⟩);obtain⟨hown,hch,_⟩:=HK0.out;generalize hPP:σ.pairAt (σ.slots+1) (σ.word (9+k))=PP;have hsu:=pairsTo_succ σ k;rw[hPP] at hsu;have HSU:=zH hsu;generalize hmm:(pairsTo σ k).length=m at*;generalize hxs:pairCs (pairsTo σ k)=xs at*;have HMX:=zH (zA hmm hxs);have hm4:m<4000000:=by omega
    clear hsu hmm hxs hm0 hk
    go_loopw [3,5] (fun l v wr2=>∃ link:Nat,v=zu (link:Int)∧(∃ n,chainOk σ n link=true∧σ.pairAt n link=PP)∧Below w.heap.size w wr2∧l=.slice av m cap∧wr2.ownsRow w.heap.size 120 2 l m xs) (fun _ v _=>leastF fun n=>chainOk σ n (intOf v).toNat=true∧σ.pairAt n (intOf v).toNat=PP)
    case atStart=>exact⟨_,rfl,⟨_,hch,hPP⟩,hb.trans (hb1.mono hb.size),rfl,own_same hown fun g hg=>hb1.block g (hown.lt g hg).2⟩
    case round=>
     clear hown hch hPP hb hb1 e2;obtain⟨link,rfl,hex,hb2,rfl,hown2⟩:=hrel;have hsp:=leastF_spec (P:=fun n=>chainOk σ n link=true∧σ.pairAt n link=PP) hex;obtain⟨n0,hn0⟩:∃ n0,(leastF fun n=>chainOk σ n link=true∧σ.pairAt n link=PP)=n0:=⟨_,rfl⟩
     rw[hn0] at hsp;have HN0:=zH hn0;clear hex hn0;obtain⟨hc0,hp0⟩:=hsp
     cases n0 with
     |zero=>cases hc0
     |succ n0=>
     by_cases h0:link=0
     · have hP:PP=none:=by rw[←hp0];unfold St.pairAt;rw[if_pos h0]
       have HO2:=zH (zA hb2 (zA hown2 hP));have hlt':=hlt;obtain⟨fl1,fl2,fl3,fl4,fl5⟩:=zeT (x:=link) (c:=0) (ci:=0) (by omega);clear hc0 hp0 h0 hP hown2 hb2 hlt hlt';go_wp2
       go_roundw
       case rel=>
        obtain⟨hb2,hown2,hP⟩:=HO2.out;have hsu:=HSU.out;rw[hP] at hsu;simp only[List.append_nil] at hsu;exact⟨k+1,HK0.out.2.2,rfl,hb2,av,cap,by rw[hsu,HMX.out.1],by rw[hsu,HMX.out.1,HMX.out.2];exact hown2⟩
       case measure=>have:=HK0.out.2.2;simp[intOf];omega
     · unfold chainOk at hc0
       unfold St.pairAt at hp0;rw[if_neg h0] at hp0;rw[show (link==0)=false by simpa using h0,Bool.false_or] at hc0;simp only[Bool.and_eq_true] at hc0;obtain⟨⟨⟨hv,hw0⟩,hw1⟩,hc1⟩:=hc0;have hvl:=vl_iff hv;have hr2:=HRR.out.1.below hb2;have hsl2:=hr2.sl;have e2:=HE2.out wr hb2;have HKE:Hid (∀ w',Below wr.heap.size wr w'→w'.cell? ⟨A.be,2,none⟩=some (.pointer (some ⟨A.ba,0,none⟩))):=fun w' hb=>(hr2.below hb).eng 2 rfl
       obtain⟨ws,hws⟩:∃ ws:Int→Int,∀ k:Nat,ws (k:Int)=((wslot link k:Nat):Int):=⟨fun z=>((wslot link z.toNat:Nat):Int),fun k=>rfl⟩
       obtain⟨pw,hpw⟩:∃ pw:Int→Int,∀ i:Nat,pw (i:Int)=((σ.word i:Nat):Int):=⟨fun z=>((σ.word z.toNat:Nat):Int),fun k=>rfl⟩
       obtain⟨dn,hdn⟩:∃ dn:Int→Bool,∀ x:Nat,dn (x:Int)=σ.done x:=⟨fun z=>σ.done z.toNat,fun k=>rfl⟩
       have e0:ws 0=((wslot link 0:Nat):Int):=hws 0;have e1:ws 1=((wslot link 1:Nat):Int):=hws 1;have e2w:ws 2=((wslot link 2:Nat):Int):=hws 2;have p0:pw (ws 0)=((σ.word (wslot link 0):Nat):Int):=by rw[e0];exact hpw _
       have p1:pw (ws 1)=((σ.word (wslot link 1):Nat):Int):=by rw[e1];exact hpw _
       have p2:pw (ws 2)=((σ.word (wslot link 2):Nat):Int):=by rw[e2w];exact hpw _
       have x0:dn (pw (ws 0))=σ.done (σ.word (wslot link 0)):=by rw[p0];exact hdn _
       have x1:dn (pw (ws 1))=σ.done (σ.word (wslot link 1)):=by rw[p1];exact hdn _
       have HSL:Hid (∀ z:Int,(z=0∨z=1∨z=2)→∀ w0,Calls Tryz.prog 37 #[zu (link:Int),zi z] w0 fun e w'=>e=.returned (zi (ws z))∧w0=w'):=by
        rintro z (rfl|rfl|rfl) w0
        · rw[e0];exact slot_at link 0 0 rfl hvl.lo (by have:=hvl.hi;omega) hvl.u (by omega) w0
        · rw[e1];exact slot_at link 1 1 rfl hvl.lo (by have:=hvl.hi;omega) hvl.u (by omega) w0
        · rw[e2w];exact slot_at link 2 2 rfl hvl.lo (by have:=hvl.hi;omega) hvl.u (by omega) w0
       have HPK:Hid (∀ z:Int,(z=ws 0∨z=ws 1∨z=ws 2)→∀ w0,Below wr.heap.size wr w0→Calls Tryz.prog 36 #[.pointer (some ⟨A.ba,0,none⟩),zi z] w0 fun e w'=>e=.returned (zu (pw z))∧Below wr.heap.size wr w'):=by
        rintro z (rfl|rfl|rfl) w0 hb
        · rw[p0,e0];exact peek_ok hr2 hb _ (wslot_lt hr2 hvl.lo hvl.hi (by omega))
        · rw[p1,e1];exact peek_ok hr2 hb _ (wslot_lt hr2 hvl.lo hvl.hi (by omega))
        · rw[p2,e2w];exact peek_ok hr2 hb _ (wslot_lt hr2 hvl.lo hvl.hi (by omega))
       have HDN:Hid (∀ z:Int,(z=pw (ws 0)∨z=pw (ws 1))→∀ w0,Below wr.heap.size wr w0→Calls Tryz.prog 38 #[.pointer (some ⟨A.be,0,none⟩),zu z] w0 fun e w'=>e=.returned (.bool (dn z))∧Below wr.heap.size wr w'):=by
        rintro z (rfl|rfl) w0 hb
        · rw[x0,p0];exact done_ok hr2 hb hw0
        · rw[x1,p1];exact done_ok hr2 hb hw1
       have HDT:Hid (∀ w0,Below wr.heap.size wr w0→(∀ w1,w1=w0→Calls Tryz.prog 39 #[.pointer (some ⟨A.be,0,none⟩),zu (link:Int)] w1 fun e w'=>e=.returned (.pointer (some ⟨A.bv,2*slotOf link,none⟩))∧w1=w')∧w0.cell? ⟨A.bv,2*slotOf link+1,none⟩=some (zi (σ.valueOf link:Int))∧Below w.heap.size w w0∧w0.ownsRow w.heap.size 120 2 (.slice av m cap) m xs):=fun w0 hb=>⟨fun w1 e=>by subst e;exact data_any (hr2.below hb) link hvl.lo hvl.hi hvl.u,((hr2.below hb).val (slotOf_lt hvl)).2,hb2.trans (hb.mono hb2.size),own_same hown2 fun g hg=>hb.block g (hown2.lt g hg).2⟩
       have HB0:Below wr.heap.size wr wr.drew:=(Below.refl _ _).drew;have HM4:=zH hm4;rw[←x0,←x1] at hc1 hp0;have HC1:=zH (zA hc1 hp0);obtain⟨fl1,fl2,fl3,fl4,fl5⟩:=zeF (x:=link) (c:=0) (ci:=0) (by omega);clear hv hw0 hw1 hc1 hp0 hvl hr2 hsl2 hb2 hown2 h0 hlt hm4;clear hws hpw hdn e0 e1 e2w p0 p1 x0 x1;generalize σ.word (wslot link 2)=xn at*;have HP2:=zH p2;clear p2;go_wp2_with fail
       cases hdb:dn (pw (ws 0)) with
       |true=>
        rw[hdb] at HC1
        cases hde:dn (pw (ws 1)) with
        |true=>
         rw[hde] at HC1
         go_region_held3 (fun w'=>w'.cell? ⟨A.be,2,none⟩=some (.pointer (some ⟨A.ba,0,none⟩)))
          (first|exact e2|assumption|exact HKE.out _ (by assumption))
          (first|(go_at_call 37;refine (HSL.out _ (by first|exact Or.inl rfl|exact Or.inr (Or.inl rfl)|exact Or.inr (Or.inr rfl)) _).mono ?_;rintro e w' ⟨rfl,rfl⟩)|(go_at_call 36;refine (HPK.out _ (by first|exact Or.inl rfl|exact Or.inr (Or.inl rfl)|exact Or.inr (Or.inr rfl)) _ (by assumption)).mono ?_;rintro e w3 ⟨rfl,hb3⟩)|(go_at_call 38;refine (HDN.out _ (by first|exact Or.inl rfl|exact Or.inr rfl) _ (by assumption)).mono ?_;rintro e w4 ⟨rfl,hb4⟩))
         clear HB0;go_wp2_with fail;have e2':=HKE.out _ hb4;obtain⟨_,_,hbw,how⟩:=HDT.out _ hb4;have HBD:=(hb4).drew
         go_region_held3 (fun w'=>w'.cell? ⟨A.be,2,none⟩=some (.pointer (some ⟨A.ba,0,none⟩)))
          (first|exact e2'|assumption|exact HKE.out _ (by assumption))
          (first|(go_at_call 37;refine (HSL.out _ (by first|exact Or.inl rfl|exact Or.inr (Or.inl rfl)|exact Or.inr (Or.inr rfl)) _).mono ?_;rintro e w' ⟨rfl,rfl⟩)|(go_at_call 36;refine (HPK.out _ (by first|exact Or.inl rfl|exact Or.inr (Or.inl rfl)|exact Or.inr (Or.inr rfl)) _ (by assumption)).mono ?_;rintro e w7 ⟨rfl,hb7⟩))
         obtain⟨_,_,hbw7,how7⟩:=HDT.out _ hb7;have HO7:=zH (zA hbw7 how7);clear hbw how hbw7 how7;go_wp2_with fail
         go_roundw
         case rel=>
          obtain⟨hc1,hp0⟩:=HC1.out;exact⟨xn,by rw[HP2.out],⟨n0,by simpa using hc1,by simpa using hp0⟩,HO7.out.1,rfl,HO7.out.2⟩
         case measure=>
          obtain⟨hc1,hp0⟩:=HC1.out;rw[HP2.out];exact Nat.lt_of_le_of_lt (leastF_le (P:=fun n=>chainOk σ n xn=true∧σ.pairAt n xn=PP) ⟨by simpa using hc1,by simpa using hp0⟩) (Nat.lt_of_lt_of_eq (Nat.lt_succ_self n0) HN0.out.symm)
        |false=>
         rw[hde] at HC1
         go_region_held3 (fun w'=>w'.cell? ⟨A.be,2,none⟩=some (.pointer (some ⟨A.ba,0,none⟩)))
          (first|exact e2|assumption|exact HKE.out _ (by assumption))
          (first|(go_at_call 37;refine (HSL.out _ (by first|exact Or.inl rfl|exact Or.inr (Or.inl rfl)|exact Or.inr (Or.inr rfl)) _).mono ?_;rintro e w' ⟨rfl,rfl⟩)|(go_at_call 36;refine (HPK.out _ (by first|exact Or.inl rfl|exact Or.inr (Or.inl rfl)|exact Or.inr (Or.inr rfl)) _ (by assumption)).mono ?_;rintro e w3 ⟨rfl,hb3⟩)|(go_at_call 38;refine (HDN.out _ (by first|exact Or.inl rfl|exact Or.inr rfl) _ (by assumption)).mono ?_;rintro e w4 ⟨rfl,hb4⟩))
         clear HB0;obtain⟨hdt,hval,hbw,how⟩:=HDT.out _ hb4;have HDD:=zH (hdt _ rfl);have hm4:=HM4.out;have hPv:PP=some (σ.valueOf link):=by have h:=HC1.out.2;simpa using h.symm
         have HPV:=zH hPv;clear hdt hPv;generalize 2*slotOf link=iv at*;generalize σ.valueOf link=va at*;go_wp2_with (first|(go_at_call 39;refine HDD.out.mono ?_;rintro e w' ⟨rfl,rfl⟩)|(refine wp_pair _ rfl _ _ rfl w (by assumption) _ _ _ _ rfl (by assumption) (by omega) _ _ rfl ?_;intro avl capl wl ql pl))
         go_roundw
         case rel=>
          have hsu:=HSU.out;rw[HPV.out] at hsu;simp only at hsu;refine⟨k+1,HK0.out.2.2,rfl,pl,avl,capl,by rw[hsu,List.length_append,HMX.out.1];rfl,?_⟩;rw[hsu,pairCs_snoc,List.length_append,HMX.out.1,HMX.out.2];exact ql
         case measure=>have:=HK0.out.2.2;simp[intOf];omega
       |false=>
        rw[hdb] at HC1;refine wp_region_held_drew (S:=fun w'=>w'.cell? ⟨A.be,2,none⟩=some (.pointer (some ⟨A.ba,0,none⟩))) (by kernel_rfl) ?_ (fun hHeld=>?_)
        · (try dsimp only);exact e2
        refine zqt (i:=0) rfl hHeld ?_
        (try simp only[zqa,zqb,zqc,Act.put,zqd,zqe,zqf])
        refine zqt (i:=1) rfl hHeld ?_
        (try simp only[zqa,zqb,zqc,Act.put,zqd,zqe,zqf])
        refine zqt (i:=2) rfl hHeld ?_
        (try simp only[zqa,zqb,zqc,Act.put,zqd,zqe,zqf])
        refine zqt (i:=3) rfl hHeld ?_
        (try simp only[zqa,zqb,zqc,Act.put,zqd,zqe,zqf])
        refine zqt (i:=4) rfl hHeld ?_
        (try simp only[zqa,zqb,zqc,Act.put,zqd,zqe,zqf])
        refine zqt (i:=5) rfl hHeld ?_
        (try simp only[zqa,zqb,zqc,Act.put,zqd,zqe,zqf])
        refine wpAnyH_ready (rs:=[6]) (by kernel_rfl) (by simp) ?_;refine AllReadyH.cons (o:=_) rfl (fun K hK=>?_) ?_;rotate_left
        · exact AllReadyH.nil
        go_simp
        (first|(go_at_call 37;refine (HSL.out _ (by first|exact Or.inl rfl|exact Or.inr (Or.inl rfl)|exact Or.inr (Or.inr rfl)) _).mono ?_;rintro e w' ⟨rfl,rfl⟩)|(go_at_call 36;refine (HPK.out _ (by first|exact Or.inl rfl|exact Or.inr (Or.inl rfl)|exact Or.inr (Or.inr rfl)) _ (by assumption)).mono ?_;rintro e w3 ⟨rfl,hb3⟩)|(go_at_call 38;refine (HDN.out _ (by first|exact Or.inl rfl|exact Or.inr rfl) _ (by assumption)).mono ?_;rintro e w4 ⟨rfl,hb4⟩))
        refine hK.out _ _ ?_ (fun hHeld=>?_)
        · (try dsimp only);exact HKE.out _ (by assumption)
        clear hK K
        (try simp only[zqa,zqb,zqc,Act.put,zqd,zqe,zqf])
        refine wpAnyH_ready (rs:=[7]) (by kernel_rfl) (by simp) ?_;refine AllReadyH.cons (o:=_) rfl (fun K hK=>?_) ?_;rotate_left
        · exact AllReadyH.nil
        go_simp
        (first|(go_at_call 37;refine (HSL.out _ (by first|exact Or.inl rfl|exact Or.inr (Or.inl rfl)|exact Or.inr (Or.inr rfl)) _).mono ?_;rintro e w' ⟨rfl,rfl⟩)|(go_at_call 36;refine (HPK.out _ (by first|exact Or.inl rfl|exact Or.inr (Or.inl rfl)|exact Or.inr (Or.inr rfl)) _ (by assumption)).mono ?_;rintro e w3 ⟨rfl,hb3⟩)|(go_at_call 38;refine (HDN.out _ (by first|exact Or.inl rfl|exact Or.inr rfl) _ (by assumption)).mono ?_;rintro e w4 ⟨rfl,hb4⟩))
        refine hK.out _ _ ?_ (fun hHeld=>?_)
        · (try dsimp only);exact HKE.out _ (by assumption)
        clear hK K
        (try simp only[zqa,zqb,zqc,Act.put,zqd,zqe,zqf])
        refine wpAnyH_ready (rs:=[8]) (by kernel_rfl) (by simp) ?_;refine AllReadyH.cons (o:=_) rfl (fun K hK=>?_) ?_;rotate_left
        · exact AllReadyH.nil
        go_simp
        (first|(go_at_call 37;refine (HSL.out _ (by first|exact Or.inl rfl|exact Or.inr (Or.inl rfl)|exact Or.inr (Or.inr rfl)) _).mono ?_;rintro e w' ⟨rfl,rfl⟩)|(go_at_call 36;refine (HPK.out _ (by first|exact Or.inl rfl|exact Or.inr (Or.inl rfl)|exact Or.inr (Or.inr rfl)) _ (by assumption)).mono ?_;rintro e w3 ⟨rfl,hb3⟩)|(go_at_call 38;refine (HDN.out _ (by first|exact Or.inl rfl|exact Or.inr rfl) _ (by assumption)).mono ?_;rintro e w4 ⟨rfl,hb4⟩))
        refine hK.out _ _ ?_ (fun hHeld=>?_)
        · (try dsimp only);exact HKE.out _ (by assumption)
        clear hK K
        (try simp only[zqa,zqb,zqc,Act.put,zqd,zqe,zqf])
        refine zqt (i:=9) rfl hHeld ?_
        (try simp only[zqa,zqb,zqc,Act.put,zqd,zqe,zqf])
        refine wpAnyH_take (i:=10) (v:=undef) rfl (by kernel_rfl) (by kernel_rfl) (by kernel_rfl) (fun _ _ _ h=>h) (Or.inr ⟨by rfl,rfl⟩) hHeld ?_
        (try simp only[zqa,zqb,zqc,Act.put,zqd,zqe,zqf])
        refine wpAnyH_take (i:=11) (v:=undef) rfl (by kernel_rfl) (by kernel_rfl) (by kernel_rfl) (fun _ _ _ h=>h) (Or.inr ⟨by rfl,rfl⟩) hHeld ?_
        (try simp only[zqa,zqb,zqc,Act.put,zqd,zqe,zqf])
        refine wpAnyH_take (i:=12) (v:=undef) rfl (by kernel_rfl) (by kernel_rfl) (by kernel_rfl) (fun _ _ _ h=>h) (Or.inr ⟨by rfl,rfl⟩) hHeld ?_
        (try simp only[zqa,zqb,zqc,Act.put,zqd,zqe,zqf])
        refine wpAnyH_take (i:=13) (v:=undef) rfl (by kernel_rfl) (by kernel_rfl) (by kernel_rfl) (fun _ _ _ h=>h) (Or.inr ⟨by rfl,rfl⟩) hHeld ?_
        (try simp only[zqa,zqb,zqc,Act.put,zqd,zqe,zqf])
        refine wpAnyH_take (i:=14) (v:=undef) rfl (by kernel_rfl) (by kernel_rfl) (by kernel_rfl) (fun _ _ _ h=>h) (Or.inr ⟨by rfl,rfl⟩) hHeld ?_
        (try simp only[zqa,zqb,zqc,Act.put,zqd,zqe,zqf])
        refine wpAnyH_take (i:=15) (v:=undef) rfl (by kernel_rfl) (by kernel_rfl) (by kernel_rfl) (fun _ _ _ h=>h) (Or.inr ⟨by rfl,rfl⟩) hHeld ?_
        (try simp only[zqa,zqb,zqc,Act.put,zqd,zqe,zqf])
        refine wpAnyH_take (i:=16) (v:=undef) rfl (by kernel_rfl) (by kernel_rfl) (by kernel_rfl) (fun _ _ _ h=>h) (Or.inr ⟨by rfl,rfl⟩) hHeld ?_
        (try simp only[zqa,zqb,zqc,Act.put,zqd,zqe,zqf])
        refine wpAnyH_take (i:=17) (v:=undef) rfl (by kernel_rfl) (by kernel_rfl) (by kernel_rfl) (fun _ _ _ h=>h) (Or.inr ⟨by rfl,rfl⟩) hHeld ?_
        (try simp only[zqa,zqb,zqc,Act.put,zqd,zqe,zqf])
        refine wpAnyH_take (i:=18) (v:=undef) rfl (by kernel_rfl) (by kernel_rfl) (by kernel_rfl) (fun _ _ _ h=>h) (Or.inr ⟨by rfl,rfl⟩) hHeld ?_
        (try simp only[zqa,zqb,zqc,Act.put,zqd,zqe,zqf])
        refine wpAnyH_take (i:=19) (v:=undef) rfl (by kernel_rfl) (by kernel_rfl) (by kernel_rfl) (fun _ _ _ h=>h) (Or.inr ⟨by rfl,rfl⟩) hHeld ?_
        (try simp only[zqa,zqb,zqc,Act.put,zqd,zqe,zqf])
        refine zqt (i:=20) rfl hHeld ?_
        (try simp only[zqa,zqb,zqc,Act.put,zqd,zqe,zqf])
        refine wpAnyH_done (by kernel_rfl) ?_ _;clear HB0;go_wp2_with fail;have e2':=HKE.out _ hb4;obtain⟨_,_,hbw,how⟩:=HDT.out _ hb4;have HBD:=(hb4).drew
        go_region_held3 (fun w'=>w'.cell? ⟨A.be,2,none⟩=some (.pointer (some ⟨A.ba,0,none⟩)))
         (first|exact e2'|assumption|exact HKE.out _ (by assumption))
         (first|(go_at_call 37;refine (HSL.out _ (by first|exact Or.inl rfl|exact Or.inr (Or.inl rfl)|exact Or.inr (Or.inr rfl)) _).mono ?_;rintro e w' ⟨rfl,rfl⟩)|(go_at_call 36;refine (HPK.out _ (by first|exact Or.inl rfl|exact Or.inr (Or.inl rfl)|exact Or.inr (Or.inr rfl)) _ (by assumption)).mono ?_;rintro e w7 ⟨rfl,hb7⟩))
        obtain⟨_,_,hbw7,how7⟩:=HDT.out _ hb7;have HO7:=zH (zA hbw7 how7);clear hbw how hbw7 how7;go_wp2_with fail
        go_roundw
        case rel=>
         obtain⟨hc1,hp0⟩:=HC1.out;exact⟨xn,by rw[HP2.out],⟨n0,by simpa using hc1,by simpa using hp0⟩,HO7.out.1,rfl,HO7.out.2⟩
        case measure=>
         obtain⟨hc1,hp0⟩:=HC1.out;rw[HP2.out];exact Nat.lt_of_le_of_lt (leastF_le (P:=fun n=>chainOk σ n xn=true∧σ.pairAt n xn=PP) ⟨by simpa using hc1,by simpa using hp0⟩) (Nat.lt_of_lt_of_eq (Nat.lt_succ_self n0) HN0.out.symm)
  · obtain rfl:k=64:=by omega
    have HO:=zH (zA hown hb);clear hown hb hlt hk;go_wp2;go_ret;exact⟨av,cap,rfl,HO.out.1,HO.out.2⟩
structure EAt (b:Nat) (w0:World) (σ:St) (w:World):Prop where
 ex:∃ A:Book,A.be=b∧Live A σ w∧Grow (fun _=>none) w0 A.L w
def thn {α:Type} (x:Option α) (f:α→Bool):Bool:=match x with|some y=>f y|none=>false
theorem thn_ok {α:Type} {x:Option α} {f:α→Bool} (h:thn x f=true):∃ y,x=some y∧f y=true:=by
 cases x with
 |none=>cases h
 |some y=>exact⟨y,rfl,h⟩
theorem and_ok {a b:Bool} (h:(a&&b)=true):a=true∧b=true:=by simpa using h
theorem new_at (n l:Nat) (h1:1≤n) (h2:n≤256) (h3:1≤l) (h4:l≤1099511627776) (w:World):
 Calls Tryz.prog 28 #[.agg #[zi (n:Int),zu (l:Int)]] w fun e w'=>∃ b,e=.returned (.tuple #[.pointer (some ⟨b,0,none⟩),zi 0])∧EAt b w (new n l) w':=by
 refine (engineNew n l h1 h2 h3 h4 w).mono ?_;rintro e w' ⟨A,rfl,hL,g⟩;exact⟨A.be,rfl,A,rfl,hL,g⟩
inductive Kept where
 |obj (k:Nat) (o:Obj)
 |row (size:Nat) (v:Value) (xs:List Value)
 |far (k:Nat) (o:Obj)
 |floor (n:Nat)
def Kept.holds (L:Lab) (w:World):Kept→Prop
 |.obj k o=>Fix L w k o
 |.row size v xs=>FRow L w size v xs
 |.far k o=>L k=some .tmp∧w.heap[k]? =some o
 |.floor n=>n≤w.heap.size
theorem Kept.grow {L L':Lab} {w w':World} (g:Grow L w L' w'):∀ {k:Kept},k.holds L w→k.holds L' w'
 |.obj _ _,h=>Fix.grow h g
 |.row _ _ _,h=>FRow.grow h g
 |.far _ _,h=>⟨(g.lab _ (lt_of h.2)).trans h.1,(g.keep _ (lt_of h.2) h.1).trans h.2⟩
 |.floor _,h=>Nat.le_trans h g.size
def Kepts (L:Lab) (w:World):List Kept→Prop
 |[]=>True
 |k::ks=>k.holds L w∧Kepts L w ks
theorem Kepts.grow {L L':Lab} {w w':World} (g:Grow L w L' w'):∀ {ks:List Kept},Kepts L w ks→Kepts L' w' ks
 |[],_=>trivial
 |_::_,⟨h,t⟩=>⟨Kept.grow g h,Kepts.grow g t⟩
structure EKt (b:Nat) (w0:World) (ks:List Kept) (σ:St) (w:World):Prop where
 ex:∃ A:Book,A.be=b∧Live A σ w∧Grow (fun _=>none) w0 A.L w∧Kepts A.L w ks
theorem EAt.kt {b:Nat} {w0 w:World} {σ:St} (h:EAt b w0 σ w):EKt b w0 [] σ w:=let ⟨A,e,l,g⟩:=h.ex;⟨A,e,l,g,trivial⟩
theorem EKt.tail {b:Nat} {w0 w:World} {σ:St} {k:Kept} {ks:List Kept} (h:EKt b w0 (k::ks) σ w):EKt b w0 ks σ w:=let ⟨A,e,l,g,_,t⟩:=h.ex;⟨A,e,l,g,t⟩
theorem EKt.obj {b:Nat} {w0 w:World} {σ:St} {ks:List Kept} {k:Nat} {o:Obj} (h:EKt b w0 ks σ w) (hm:.obj k o∈ks):w.heap[k]? =some o:=by
 obtain⟨A,_,_,_,t⟩:=h.ex
 induction ks with
 |nil=>cases hm
 |cons x ks ih=>
  rcases List.mem_cons.1 hm with rfl|hm
  · exact t.1.2
  · exact ih h.tail hm t.2
theorem EKt.row {b:Nat} {w0 w:World} {σ:St} {ks:List Kept} {size:Nat} {v:Value} {xs:List Value} (h:EKt b w0 ks σ w) (hm:.row size v xs∈ks):Ow.Row w 0 size v xs:=by
 obtain⟨A,_,_,_,t⟩:=h.ex
 induction ks with
 |nil=>cases hm
 |cons x ks ih=>
  rcases List.mem_cons.1 hm with rfl|hm
  · exact FRow.row t.1
  · exact ih h.tail hm t.2
theorem same_result (e v x y:Int) (a1 a2:Option Addr) (n c1 c2:Nat) (ps:List (Nat×Nat)) (w:World) (h1:Ow.Row w 0 2 (.slice a1 n c1) (pairCs ps)) (h2:Ow.Row w 0 2 (.slice a2 n c2) (pairCs ps)):
 Calls Tryz.prog 34 #[.agg #[zi e,zi v,.slice a1 n c1,zi x,zi y],.agg #[zi e,zi v,.slice a2 n c2,zi x,zi y]] w fun e w'=>e=.returned (.bool true)∧Below w.heap.size w w':=by
 have H1:=zH h1;have H2:=zH h2;clear h1 h2;go_enter Tryz.func34,Tryz.ntmps34;go_wp2_with (go_at_call 12;refine (same_pairs _ _ ps _ _ _ (Row.alloc' (Row.alloc' H1.out _) _) (Row.alloc' (Row.alloc' H2.out _) _)).mono ?_;rintro e w9 ⟨rfl,q⟩;have HB:=zH q;clear q);go_ret;refine⟨rfl,?_⟩;have hb:=HB.out;have h2:Below w.heap.size w ((w.alloc (.cells #[zi e,zi v,.slice a1 n c1,zi x,zi y] 63)).alloc (.cells #[zi e,zi v,.slice a2 n c2,zi x,zi y] 63)):=(((Below.refl _ _).alloc (Nat.le_refl _) _)).alloc (by simp) _;exact h2.trans (hb.mono h2.size)
theorem row_of_obj {w:World} {g:Nat} {T:TypeId} (xs:List Value) (n size:Nat) (h:w.heap[g]? =some (.cells xs.toArray T)) (hl:xs.length=n*size) (hn:n≤1000000):Ow.Row w 0 size (.slice (some ⟨g,0,none⟩) n n) xs:=by
 refine⟨_,n,n,rfl,hl,Nat.le_refl _,by unfold maxLen;omega,.inr ⟨g,0,rfl,Nat.zero_le _,lt_of h,fun j hj=>?_⟩⟩;rw[Nat.zero_add];have hj':j<xs.length:=by omega
 rw[List.getElem?_eq_getElem hj'];simp[World.cell?,h,hj']
theorem row_nil (w:World) (size:Nat):Ow.Row w 0 size (.slice none 0 0) []:=⟨none,0,0,rfl,by simp,Nat.le_refl _,by unfold maxLen;omega,.inl rfl⟩
structure Dl where
 id:Nat
 level:Nat
 state:Nat
 begin_:Nat
 end_:Nat
 ops:List (En.Op×Res)
 deriving Repr,DecidableEq,Inhabited
structure Wd where
 σ:St
 deals:List Dl
 ids:List Nat
 ops:List En.Op
 gone:List Nat
 deriving Repr,DecidableEq,Inhabited
structure WBook where
 M:Lab
 bw:Nat
 vd:Value
 vg:Value
 ds:List (Dl×Value)
 cs:Nat→List Value
def opC (o:En.Op):List Value:=[i64 o.kind,i64 o.key,i64 o.hi,i64 o.value]
def dealCs (d:Dl) (v:Value):List Value:=[i64 d.id,i64 d.level,i64 d.state,u64 d.begin_,u64 d.end_,v]
def dealsCs (l:List (Dl×Value)):List Value:=l.flatMap fun p=>dealCs p.1 p.2
def callsC (o:En.Op) (r:Res) (vp:Value):List Value:=opC o++[i64 r.e,i64 r.value,vp,i64 r.over,i64 r.reason]
def worldCs (be:Nat) (B:WBook) (W:Wd):List Value:=[ptr be,B.vd]++(W.ids.map i64++(W.ops.flatMap opC++[B.vg]))
def Cls (L:Lab) (w:World):List (En.Op×Res)→List Value→Prop
 |[],cs=>cs=[]
 |p::l,cs=>∃ vp cs',cs=callsC p.1 p.2 vp++cs'∧FRow L w 2 vp (pairCs p.2.pairs)∧Cls L w l cs'
theorem Cls.soft {L L':Lab} {w w':World} (g:Soft L w L' w'):∀ {l:List (En.Op×Res)} {cs:List Value},Cls L w l cs→Cls L' w' l cs
 |[],_,h=>h
 |_::_,_,⟨vp,cs',h1,h2,h3⟩=>⟨vp,cs',h1,h2.soft g,h3.soft g⟩
theorem Cls.snoc {L:Lab} {w:World}:∀ {l:List (En.Op×Res)} {cs:List Value} (_:Cls L w l cs) (o:En.Op) (r:Res) (vp:Value) (_:FRow L w 2 vp (pairCs r.pairs)),Cls L w (l++[(o,r)]) (cs++callsC o r vp)
 |[],_,h,o,r,vp,f=>⟨vp,[],by rw[show _=_ from h];simp,f,rfl⟩
 |_::_,_,⟨vp',cs',h1,h2,h3⟩,o,r,vp,f=>⟨vp',_,by rw[h1,List.append_assoc],h2,h3.snoc o r vp f⟩
def wmem (be:Nat) (B:WBook) (W:Wd):Role→Entry
 |.eng=>.obj B.bw (worldCs be B W) 37
 |.tale=>.own B.vd 130 6 B.ds.length (dealsCs B.ds)
 |.free=>.own B.vg 3 1 W.gone.length (W.gone.map i64)
 |.reads k=>match B.ds[k]? with|some p=>.own p.2 155 9 p.1.ops.length (B.cs k)|none=>.none
 |_=>.none
structure WRep (A:Book) (W:Wd) (B:WBook) (w:World):Prop where
 tie:∀ b r,B.M b=some r→A.L b=some .tmp
 mem:Holds B.M w (wmem A.be B W)
 cls:∀ k p,B.ds[k]? =some p→Cls A.L w p.1.ops (B.cs k)
 dl:B.ds.map (·.1)=W.deals
 i8:W.ids.length=8
 o8:W.ops.length=8
theorem WRep.soft {A A':Book} {W:Wd} {B:WBook} {w w':World} (h:WRep A W B w) (hbe:A'.be=A.be) (tie:∀ b r,B.M b=some r→A'.L b=some .tmp) (mem:Holds B.M w' (wmem A.be B W)) (s:Soft A.L w A'.L w') (σ':St):WRep A' {W with σ:=σ'} B w':=
 ⟨tie,by rw[hbe];exact mem,fun k p hk=>(h.cls k p hk).soft s,h.dl,h.i8,h.o8⟩
theorem WRep.lt {A:Book} {W:Wd} {B:WBook} {w:World} (h:WRep A W B w) {b:Nat} {r:Role} (hb:B.M b=some r):b<w.heap.size:=by
 rcases Nat.lt_or_ge b w.heap.size with h1|h1
 · exact h1
 · rw[h.mem.fresh b h1] at hb;cases hb
theorem WRep.grow {A A':Book} {W:Wd} {B:WBook} {w w':World} (h:WRep A W B w) (g:Grow A.L w A'.L w') (e:A'.be=A.be) (σ':St):WRep A' {W with σ:=σ'} B w':=
 h.soft e (fun b r hb=>(g.lab b (h.lt hb)).trans (h.tie b r hb)) (h.mem.grow (fun b r hb hr=>g.keep b hb (h.tie b r hr)) (fun _ _=>rfl) (fun b hb=>h.mem.fresh b (Nat.le_trans g.size hb))) g.soft σ'
theorem Soft.trans {L L1 L2:Lab} {w w1 w2:World} (g:Soft L w L1 w1) (h:Soft L1 w1 L2 w2):Soft L w L2 w2:=
 ⟨Nat.le_trans g.size h.size,fun b hb e=>(h.block b (Nat.lt_of_lt_of_le hb g.size) (g.lab b hb e)).trans (g.block b hb e),fun b hb e=>h.lab b (Nat.lt_of_lt_of_le hb g.size) (g.lab b hb e)⟩
theorem Kept.soft {L L':Lab} {w w':World} (g:Soft L w L' w'):∀ {k:Kept},(∀ b o,k=.far b o→L b=some .tmp→b<w.heap.size→L' b=some .tmp∧w'.heap[b]? =w.heap[b]?)→k.holds L w→k.holds L' w'
 |.obj _ _,_,h=>Fix.soft h g
 |.row _ _ _,_,h=>FRow.soft h g
 |.far b o,f,h=>let ⟨e1,e2⟩:=f b o rfl h.1 (lt_of h.2);⟨e1,e2.trans h.2⟩
 |.floor _,_,h=>Nat.le_trans h g.size
theorem Kepts.soft {L L':Lab} {w w':World} (g:Soft L w L' w'):∀ {ks:List Kept},(∀ b o,Kept.far b o∈ks→L b=some .tmp→b<w.heap.size→L' b=some .tmp∧w'.heap[b]? =w.heap[b]?)→Kepts L w ks→Kepts L' w' ks
 |[],_,_=>trivial
 |_::_,f,⟨h,t⟩=>⟨Kept.soft g (fun b o e=>f b o (e ▸ List.mem_cons_self)) h,Kepts.soft g (fun b o e=>f b o (List.mem_cons_of_mem _ e)) t⟩
def KW (M L:Lab) (w:World) (ks:List Kept):Prop:=Kepts L w ks∧∀ b o,Kept.far b o∈ks→M b=none
theorem KW.grow {M L L':Lab} {w w':World} {ks:List Kept} (g:Grow L w L' w') (h:KW M L w ks):KW M L' w' ks:=⟨Kepts.grow g h.1,h.2⟩
theorem KW.soft {M M' L L':Lab} {w w':World} {ks:List Kept} (g:Soft L w L' w') (f:∀ b,M b=none→L b=some .tmp→b<w.heap.size→L' b=some .tmp∧w'.heap[b]? =w.heap[b]? ∧M' b=none) (h:KW M L w ks):KW M' L' w' ks:=by
 have hL:∀ b o,Kept.far b o∈ks→L b=some .tmp∧b<w.heap.size:=by
  intro b o hm;obtain⟨t,hh⟩:=h;clear f hh
  induction ks with
  |nil=>cases hm
  |cons x ks ih=>
   rcases List.mem_cons.1 hm with rfl|hm
   · exact⟨t.1.1,lt_of t.1.2⟩
   · exact ih hm t.2
 exact⟨Kepts.soft g (fun b o hm h1 h2=>let ⟨e1,e2,_⟩:=f b (h.2 b o hm) h1 h2;⟨e1,e2⟩) h.1,fun b o hm=>(f b (h.2 b o hm) (hL b o hm).1 (hL b o hm).2).2.2⟩
theorem KW.obj {M L:Lab} {w:World} {ks:List Kept} {k:Nat} {o:Obj} (f:Fix L w k o) (h:KW M L w ks):KW M L w (.obj k o::ks):=⟨⟨f,h.1⟩,fun b p hm=>by rcases List.mem_cons.1 hm with e|hm;cases e;exact h.2 b p hm⟩
theorem KW.row {M L:Lab} {w:World} {ks:List Kept} {size:Nat} {v:Value} {xs:List Value} (f:FRow L w size v xs) (h:KW M L w ks):KW M L w (.row size v xs::ks):=⟨⟨f,h.1⟩,fun b p hm=>by rcases List.mem_cons.1 hm with e|hm;cases e;exact h.2 b p hm⟩
theorem KW.nil {M L:Lab} {w:World}:KW M L w []:=⟨trivial,fun _ _ h=>by cases h⟩
structure WK (B:WBook) (be:Nat) (w0:World) (ks:List Kept) (W:Wd) (w:World):Prop where
 ex:∃ A:Book,A.be=be∧Live A W.σ w∧WRep A W B w∧Grow (fun _=>none) w0 A.L w∧KW B.M A.L w ks
section
variable {B:WBook} {be:Nat} {w0 w w':World} {ks:List Kept} {W:Wd}
theorem WK.toBelow (h:WK B be w0 ks W w):Below w0.heap.size w0 w:=let ⟨_,_,_,_,g,_⟩:=h.ex;g.toBelow
theorem WK.below (h:WK B be w0 ks W w) (hb:Below w.heap.size w w'):WK B be w0 ks W w':=
 let ⟨A,e,l,r,g,t⟩:=h.ex
 ⟨A,e,l.below hb,r.grow (Grow.below hb) rfl W.σ,g.trans (Grow.below hb),KW.grow (Grow.below hb) t⟩
theorem WK.alloc (h:WK B be w0 ks W w) (o:Obj):WK B be w0 (.obj w.heap.size o::ks) W (w.alloc o):=
 let ⟨A,e,l,r,g,t⟩:=h.ex
 ⟨A,e,l.alloc _,r.grow (Grow.alloc _ _ _) rfl W.σ,g.trans (Grow.alloc _ _ _),KW.obj (fix_next l.rep.mem.fresh _ rfl) (KW.grow (Grow.alloc _ _ _) t)⟩
theorem WK.drew (h:WK B be w0 ks W w):WK B be w0 ks W w.drew:=h.below (Below.refl _ _).drew
theorem WK.obj {k:Nat} {o:Obj} (h:WK B be w0 ks W w) (hm:.obj k o∈ks):w.heap[k]? =some o:=by
 obtain⟨A,e,l,r,g,t⟩:=h.ex;exact EKt.obj ⟨A,e,l,g,t.1⟩ hm
theorem WK.row {size:Nat} {v:Value} {xs:List Value} (h:WK B be w0 ks W w) (hm:.row size v xs∈ks):Ow.Row w 0 size v xs:=by
 obtain⟨A,e,l,r,g,t⟩:=h.ex;exact EKt.row ⟨A,e,l,g,t.1⟩ hm
theorem WK.keep {ks':List Kept} (h:WK B be w0 ks W w) (hs:∀ L,Kepts L w ks→Kepts L w ks') (hf:∀ b o,Kept.far b o∈ks'→Kept.far b o∈ks):WK B be w0 ks' W w:=
 let ⟨A,e,l,r,g,t⟩:=h.ex;⟨A,e,l,r,g,hs _ t.1,fun b o hm=>t.2 b o (hf b o hm)⟩
theorem WK.tail {k:Kept} (h:WK B be w0 (k::ks) W w):WK B be w0 ks W w:=h.keep (fun _ t=>t.2) (fun _ _ hm=>List.mem_cons_of_mem _ hm)
theorem WK.drop (h:WK B be w0 ks W w):WK B be w0 [] W w:=h.keep (fun _ _=>trivial) (fun _ _ hm=>by cases hm)
theorem WK.wcell (h:WK B be w0 ks W w) (i:Nat) {v:Value} (hv:(worldCs be B W)[i]? =some v):w.cell? ⟨B.bw,i,none⟩=some v∧w.frozen? ⟨B.bw,i,none⟩=false:=by
 obtain⟨A,rfl,l,r,g,t⟩:=h.ex;exact⟨r.mem.cell (r:=.eng) rfl i hv,r.mem.frozen (r:=.eng) rfl i⟩
theorem WK.i8 (h:WK B be w0 ks W w):W.ids.length=8:=let ⟨_,_,_,r,_⟩:=h.ex;r.i8
theorem WK.o8 (h:WK B be w0 ks W w):W.ops.length=8:=let ⟨_,_,_,r,_⟩:=h.ex;r.o8
theorem WK.lt (h:WK B be w0 ks W w):B.bw<w.heap.size:=by
 obtain⟨A,rfl,l,r,g,t⟩:=h.ex;exact r.lt (r.mem.all .eng).1
theorem WK.deals (h:WK B be w0 ks W w):w.ownsRow 0 130 6 B.vd B.ds.length (dealsCs B.ds):=let ⟨_,_,_,r,_⟩:=h.ex;(r.mem.all .tale).1
theorem WK.gone (h:WK B be w0 ks W w):w.ownsRow 0 3 1 B.vg W.gone.length (W.gone.map i64):=let ⟨_,_,_,r,_⟩:=h.ex;(r.mem.all .free).1
theorem WK.dl (h:WK B be w0 ks W w):B.ds.map (·.1)=W.deals:=let ⟨_,_,_,r,_⟩:=h.ex;r.dl
theorem WK.dlen (h:WK B be w0 ks W w):B.ds.length=W.deals.length:=by rw[←h.dl];simp
end
theorem worldCs_id {be:Nat} {B:WBook} {W:Wd} (h8:W.ids.length=8) {s:Nat} (hs:s<8):(worldCs be B W)[2+s]? =some (i64 (W.ids.getD s 0)):=by
 unfold worldCs;rw[List.getElem?_append_right (by simp),List.getElem?_append_left (by simp;omega)];simp[List.getD_eq_getElem?_getD,List.getElem?_eq_getElem (show s<W.ids.length by omega)]
theorem opC_len (l:List En.Op):(l.flatMap opC).length=l.length*4:=by
 induction l with
 |nil=>rfl
 |cons a l ih=>rw[List.flatMap_cons,List.length_append,ih,List.length_cons,show (opC a).length=4 from rfl];omega
theorem opC_get:∀ (l:List En.Op) (s j:Nat),j<4→(l.flatMap opC)[s*4+j]? =(l[s]?).bind fun o=>(opC o)[j]?
 |[],_,_,_=>rfl
 |o::l,0,j,hj=>by
  rw[List.flatMap_cons,Nat.zero_mul,Nat.zero_add,List.getElem?_append_left (by exact hj)];rfl
 |o::l,s+1,j,hj=>by
  rw[List.flatMap_cons,List.getElem?_append_right (by show 4≤_;omega),show (s+1)*4+j - (opC o).length=s*4+j by show _ - 4=_;omega,opC_get l s j hj];rfl
theorem worldCs_op {be:Nat} {B:WBook} {W:Wd} (h8:W.ids.length=8) (o8:W.ops.length=8) {s j:Nat} (hs:s<8) (hj:j<4):(worldCs be B W)[10+(s*4+j)]? =(opC (W.ops.getD s default))[j]? :=by
 unfold worldCs;have hl:(W.ops.flatMap opC).length=32:=by rw[opC_len,o8]
 rw[List.getElem?_append_right (by simp;omega),List.getElem?_append_right (by simp;omega),List.getElem?_append_left (by simp only[List.length_append,List.length_cons,List.length_nil,List.length_map,hl,h8];omega)];rw[show 10+(s*4+j) - [ptr be,B.vd].length - (W.ids.map i64).length=s*4+j by simp only[List.length_append,List.length_cons,List.length_nil,List.length_map,hl,h8];omega,opC_get _ _ _ hj];simp[List.getD_eq_getElem?_getD,List.getElem?_eq_getElem (show s<W.ops.length by omega)]
theorem worldCs_gone {be:Nat} {B:WBook} {W:Wd} (h8:W.ids.length=8) (o8:W.ops.length=8):(worldCs be B W)[42]? =some B.vg:=by
 unfold worldCs;have hl:(W.ops.flatMap opC).length=32:=by rw[opC_len,o8]
 rw[List.getElem?_append_right (by simp),List.getElem?_append_right (by simp;omega),List.getElem?_append_right (by simp only[List.length_append,List.length_cons,List.length_nil,List.length_map,hl,h8];omega),show 42 - [ptr be,B.vd].length - (W.ids.map i64).length - (W.ops.flatMap opC).length=0 by simp only[List.length_append,List.length_cons,List.length_nil,List.length_map,hl,h8]];rfl
theorem worldCs_setId {be:Nat} {B:WBook} {W:Wd} (h8:W.ids.length=8) {s:Nat} (hs:s<8) (id:Nat):(worldCs be B W).set (2+s) (i64 id)=worldCs be B {W with ids:=W.ids.set s id}:=by
 unfold worldCs;rw[List.set_append_right _ _ (by simp),List.set_append_left _ _ (by simp;omega)]
 congr 1
 rw[show 2+s - [ptr be,B.vd].length=s by simp];simp[List.map_set]
theorem worldCs_setGone {be:Nat} {B:WBook} {W:Wd} (h8:W.ids.length=8) (o8:W.ops.length=8) (v:Value):(worldCs be B W).set 42 v=worldCs be {B with vg:=v} W:=by
 unfold worldCs;have hl:(W.ops.flatMap opC).length=32:=by rw[opC_len,o8]
 rw[List.set_append_right _ _ (by simp),List.set_append_right _ _ (by simp;omega),List.set_append_right _ _ (by simp only[List.length_append,List.length_cons,List.length_nil,List.length_map,hl,h8];omega),show 42 - [ptr be,B.vd].length - (W.ids.map i64).length - (W.ops.flatMap opC).length=0 by simp only[List.length_append,List.length_cons,List.length_nil,List.length_map,hl,h8]];rfl
theorem opC_set:∀ (l:List En.Op) (s:Nat) (o:En.Op),s<l.length→((((l.flatMap opC).set (s*4) (i64 o.kind)).set (s*4+1) (i64 o.key)).set (s*4+2) (i64 o.hi)).set (s*4+3) (i64 o.value)=(l.set s o).flatMap opC
 |[],_,_,h=>by cases h
 |o'::l,0,o,_=>by simp[opC]
 |o'::l,s+1,o,h=>by
  have:=opC_set l s o (by simpa using h);rw[show (s+1)*4=s*4+4 by omega];simp only[List.flatMap_cons,opC,List.cons_append,List.nil_append,List.set_cons_succ,show s*4+4+1=s*4+1+4 by omega,show s*4+4+2=s*4+2+4 by omega,show s*4+4+3=s*4+3+4 by omega];rw[this]
theorem worldCs_setOp {be:Nat} {B:WBook} {W:Wd} (h8:W.ids.length=8) (o8:W.ops.length=8) {s:Nat} (hs:s<8) (o:En.Op):((((worldCs be B W).set (10+s*4) (i64 o.kind)).set (10+s*4+1) (i64 o.key)).set (10+s*4+2) (i64 o.hi)).set (10+s*4+3) (i64 o.value)=worldCs be B {W with ops:=W.ops.set s o}:=by
 unfold worldCs;have hl:(W.ops.flatMap opC).length=32:=by rw[opC_len,o8]
 have st:∀ (l:List Value) (i:Nat) (v:Value),l.length=32→i<32→([ptr be,B.vd]++(W.ids.map i64++(l++[B.vg]))).set (10+i) v=[ptr be,B.vd]++(W.ids.map i64++(l.set i v++[B.vg])):=by
  intro l i v hl hi;rw[List.set_append_right _ _ (by simp;omega),List.set_append_right _ _ (by simp;omega),List.set_append_left _ _ (by simp;omega)];rw[show 10+i - [ptr be,B.vd].length - (W.ids.map i64).length=i by simp only[List.length_cons,List.length_nil,List.length_map,h8];omega]
 rw[st _ _ _ hl (by omega),show 10+s*4+1=10+(s*4+1) by omega,st _ _ _ (by simp[hl]) (by omega),show 10+s*4+2=10+(s*4+2) by omega,st _ _ _ (by simp[hl]) (by omega),show 10+s*4+3=10+(s*4+3) by omega,st _ _ _ (by simp[hl]) (by omega),opC_set _ _ _ (by omega)]
theorem wmem_eng {be:Nat} {B B':WBook} {W W':Wd} (hb:B'.bw=B.bw) (hd:B'.vd=B.vd) (hg:B'.vg=B.vg) (hds:B'.ds=B.ds) (hcs:B'.cs=B.cs) (hgo:W'.gone=W.gone) (q:Role) (hq:q≠.eng):wmem be B' W' q=wmem be B W q:=by
 cases q<;>first|(exact absurd rfl hq)|(simp only[wmem,hb,hd,hg,hds,hcs,hgo])
section
variable {B:WBook} {be:Nat} {w0 w w':World} {ks:List Kept} {W:Wd}
theorem WK.put (h:WK B be w0 ks W w) (hb:But B.bw w w') (B':WBook) (W':Wd) (hM:B'.M=B.M) (hbw:B'.bw=B.bw) (hvd:B'.vd=B.vd) (hvg:B'.vg=B.vg) (hds:B'.ds=B.ds) (hcs:B'.cs=B.cs) (hσ:W'.σ=W.σ) (hdl:W'.deals=W.deals) (hgo:W'.gone=W.gone) (h8:W'.ids.length=8) (o8:W'.ops.length=8)
 (hc:w'.heap[B.bw]? =some (.cells (worldCs be B' W').toArray 37)):WK B' be w0 ks W' w':=by
 obtain⟨A,rfl,l,r,g,t⟩:=h.ex;have hl:A.L B.bw=some .tmp:=r.tie _ _ (r.mem.all .eng).1;have hm:B.M B.bw=some .eng:=(r.mem.all .eng).1;refine⟨A,rfl,by rw[hσ];exact l.but hl hb,⟨by rw[hM];exact r.tie,?_,?_,by rw[hds,hdl];exact r.dl,h8,o8⟩,g.but ?_ hb,KW.soft (hb.soft hl) (fun b hb1 hb2 _=>⟨hb2,hb.block b (by rintro rfl;rw[hm] at hb1;cases hb1),by rw[hM];exact hb1⟩) t⟩
 · rw[hM]
   refine r.mem.upd .eng ?_ (fun q hq=>wmem_eng hbw hvd hvg hds hcs hgo q hq) (fun b q hb' hl' hq=>hb.block b ?_) (fun _ _=>rfl) (fun b hb'=>r.mem.fresh b (by rw[←hb.size];exact hb'))
   · show Entry.Holds B.M w' .eng (.obj B'.bw _ _)
     rw[hbw];exact⟨hm,hc⟩
   · rintro rfl
     rw[hm] at hl';exact hq (Option.some.inj hl').symm
 · rw[hds,hcs]
   exact fun k p hk=>(r.cls k p hk).soft (hb.soft hl)
 · rcases Nat.lt_or_ge B.bw w0.heap.size with h1|h1
   · rw[g.lab _ h1] at hl;cases hl
   · exact h1
theorem WK.putId (h:WK B be w0 ks W w) {s:Nat} (hs:s<8) (id:Nat):WK B be w0 ks {W with ids:=W.ids.set s id} (w.setCell ⟨B.bw,2+s,none⟩ (i64 id)):=by
 refine h.put (But.setCell w ⟨B.bw,2+s,none⟩ _) B _ rfl rfl rfl rfl rfl rfl rfl rfl rfl (by simp[h.i8]) h.o8 ?_;obtain⟨A,rfl,l,r,g,t⟩:=h.ex;rw[heap_setCell_same (r.mem.all .eng).2,List.setIfInBounds_toArray,worldCs_setId r.i8 hs]
theorem WK.putOp (h:WK B be w0 ks W w) {s:Nat} (hs:s<8) (o:En.Op):WK B be w0 ks {W with ops:=W.ops.set s o} (w.setCells B.bw (10+s*4) (opC o)):=by
 refine h.put (But.setCells _ _ _ _) B _ rfl rfl rfl rfl rfl rfl rfl rfl rfl h.i8 (by simp[h.o8]) ?_;obtain⟨A,rfl,l,r,g,t⟩:=h.ex;have h1:=heap_setCell_same (r.mem.all .eng).2 (10+s*4) (i64 o.kind);have h2:=heap_setCell_same h1 (10+s*4+1) (i64 o.key);have h3:=heap_setCell_same h2 (10+s*4+1+1) (i64 o.hi);have h4:=heap_setCell_same h3 (10+s*4+1+1+1) (i64 o.value);refine Eq.trans h4 ?_;rw[List.setIfInBounds_toArray,List.setIfInBounds_toArray,List.setIfInBounds_toArray,List.setIfInBounds_toArray,worldCs_setOp r.i8 r.o8 hs]
end
section
variable {B:WBook} {be:Nat} {w0 w w':World} {ks:List Kept} {W:Wd}
theorem WK.of {A A':Book} {σ':St} (l:Live A W.σ w) (r:WRep A W B w) (g:Grow (fun _=>none) w0 A.L w) (t:KW B.M A.L w ks) (hL':Live A' σ' w') (g':Grow A.L w A'.L w') (e':A'.be=A.be):WK B A.be w0 ks {W with σ:=σ'} w':=
 ⟨A',e',hL',r.grow g' e' σ',g.trans g',KW.grow g' t⟩
theorem begin_wk (h:WK B be w0 ks W w) {s level id:Nat} {σ1:St} (hs:s<8) (hr:beginOk W.σ s level=some (σ1,id)):
 Calls Tryz.prog 21 #[.pointer (some ⟨be,0,none⟩),zi (s:Int),zi (level:Int)] w fun e w'=>e=.returned (.tuple #[zi (id:Int),zi 0])∧WK B be w0 ks {W with σ:=σ1} w':=by
 obtain⟨A,rfl,l,r,g,t⟩:=h.ex;refine (begin_to hs hr A w l).mono ?_;rintro e w' ⟨A',rfl,hL',g',e'⟩;exact⟨rfl,WK.of l r g t hL' g' e'⟩
theorem issue_wk (h:WK B be w0 ks W w) {s:Nat} {o:En.Op} {σ1:St} (hs:s<8) (hr:issueOk W.σ s o=some σ1):
 Calls Tryz.prog 22 #[.pointer (some ⟨be,0,none⟩),zi (s:Int),.agg #[zi (o.kind:Int),zi (o.key:Int),zi (o.hi:Int),zi (o.value:Int)]] w fun e w'=>e=.returned (zi 0)∧WK B be w0 ks {W with σ:=σ1} w':=by
 obtain⟨A,rfl,l,r,g,t⟩:=h.ex;refine (issue_to hs hr A w l).mono ?_;rintro e w' ⟨A',rfl,hL',g',e'⟩;exact⟨rfl,WK.of l r g t hL' g' e'⟩
theorem step_wk (h:WK B be w0 ks W w) {s kd:Nat} {r:Res} {σ1:St} (hs:s<8) (hr:oneStep W.σ s=some (σ1,kd,r)):
 Calls Tryz.prog 23 #[.pointer (some ⟨be,0,none⟩),zi (s:Int)] w (fun e w'=>∃ va vn vc,e=.returned (.tuple #[.agg #[zi (kd:Int),zi (r.e:Int),zi (r.value:Int),.slice va vn vc,zi (r.over:Int),zi (r.reason:Int)],zi 0])∧vn=r.pairs.length∧WK B be w0 (.row 2 (.slice va vn vc) (pairCs r.pairs)::ks) {W with σ:=σ1} w'):=by
 obtain⟨A,rfl,l,r',g,t⟩:=h.ex;refine (step_calls l hs hr).mono ?_;rintro e w' ⟨A',vp,rfl,hf,hL',g',e'⟩;obtain⟨va,vn,vc,rfl⟩:=frow_form hf;have hvn:vn=r.pairs.length:=by
  obtain⟨a,n,c,e0,h1,_⟩:=hf;simp only[Value.slice.injEq] at e0;rw[pairCs_len] at h1;omega
 exact⟨va,vn,vc,rfl,hvn,A',e',hL',r'.grow g' e' σ1,g.trans g',KW.row hf (KW.grow g' t)⟩
theorem status_wk (h:WK B be w0 ks W w) (s:Nat) (hs:s<8):
 Calls Tryz.prog 9 #[.pointer (some ⟨be,0,none⟩),zi (s:Int)] w fun e w'=>e=.returned (.agg (statusCs (W.σ.status s)))∧WK B be w0 ks W w':=by
 obtain⟨A,rfl,l,r,g,t⟩:=h.ex;refine (status_any l s hs).mono ?_;rintro e w' ⟨rfl,hb⟩;exact⟨rfl,WK.below ⟨A,rfl,l,r,g,t⟩ hb⟩
theorem now_wk (h:WK B be w0 ks W w) (hx:W.σ.word 0<18446744073709551616):
 Calls Tryz.prog 27 #[.pointer (some ⟨be,0,none⟩)] w fun e w'=>e=.returned (zu (W.σ.now:Int))∧WK B be w0 ks W w':=by
 obtain⟨A,rfl,l,r,g,t⟩:=h.ex;refine (now_any l.rep hx).mono ?_;rintro e w' ⟨rfl,hb⟩;exact⟨rfl,WK.below ⟨A,rfl,l,r,g,t⟩ hb⟩
theorem looks_wk (h:WK B be w0 ks W w):
 Calls Tryz.prog 7 #[.pointer (some ⟨be,0,none⟩)] w fun e w'=>e=.returned (zi (W.σ.looks:Int))∧w=w':=by
 obtain⟨A,rfl,l,r,g,t⟩:=h.ex;exact looks_any l.rep
theorem live_wk (h:WK B be w0 ks W w):
 Calls Tryz.prog 71 #[.pointer (some ⟨be,0,none⟩)] w fun e w'=>∃ av cap,e=.returned (.slice av W.σ.live.length cap)∧WK B be w0 ks W w':=by
 obtain⟨A,rfl,l,r,g,t⟩:=h.ex;refine (liveRow_any l.rep).mono ?_;rintro e w' ⟨av,cap,rfl,_,hb⟩;exact⟨av,cap,rfl,WK.below ⟨A,rfl,l,r,g,t⟩ hb⟩
theorem pairs_wk (h:WK B be w0 ks W w) (hok:okPairs W.σ=true):
 Calls Tryz.prog 13 #[.pointer (some ⟨be,0,none⟩)] w fun e w'=>∃ av cap,e=.returned (.slice av W.σ.pairs.length cap)∧Ow.Row w' 0 2 (.slice av W.σ.pairs.length cap) (pairCs W.σ.pairs)∧WK B be w0 ks W w':=by
 obtain⟨A,rfl,l,r,g,t⟩:=h.ex;refine (pairs_any l.rep hok).mono ?_;rintro e w' ⟨av,cap,rfl,ho,hb⟩;obtain⟨a,n,c,k1,k2,k3,k4,k5⟩:=own_row ho;refine⟨av,cap,rfl,⟨a,n,c,k1,k2,k3,k4,?_⟩,WK.below ⟨A,rfl,l,r,g,t⟩ hb⟩
 rcases k5 with k5|⟨g',off,e1,e2,e3⟩
 · exact .inl k5
 · exact .inr ⟨g',off,e1,Nat.zero_le _,e3⟩
end
theorem infoDl:(Tryz.prog.info? 130).map (fun i=>(i.zero,i.size,i.bytes))=some (some (.agg #[zi 0,zi 0,zi 0,zu 0,zu 0,.slice none 0 0]),6,64):=by kernel_rfl
theorem dealsCs_one (l:List (Dl×Value)) (d:Dl) (v:Value):dealsCs (l++[(d,v)])=dealsCs l++dealCs d v:=by simp[dealsCs]
section
variable {B:WBook} {be:Nat} {w0 w w':World} {ks:List Kept} {W:Wd}
theorem WK.ge (h:WK B be w0 ks W w) {b:Nat} {r:Role} (hb:B.M b=some r):w0.heap.size≤b:=by
 obtain⟨A,rfl,l,r',g,t⟩:=h.ex
 rcases Nat.lt_or_ge b w0.heap.size with h1|h1
 · have:=r'.tie b r hb
   rw[g.lab _ h1] at this;cases this
 · exact h1
theorem far_app {M L L':Lab} {w1 w2 w3:World} {v v':Value} {r q q':Role} {c:Nat} (hrow:Rown L w1 L' w2 v.ownBlock) (hc:M c=some q) (hv:∀ g,v.ownBlock=some g→M g=some q') (hg:w1.grownBy w2 v.ownBlock) (h3:v'.ownBlock=v.ownBlock∨∀ g,v'.ownBlock=some g→w1.heap.size≤g) (hbut:But c w2 w3):
 ∀ b,M b=none→L b=some .tmp→b<w1.heap.size→L' b=some .tmp∧w3.heap[b]? =w1.heap[b]? ∧labV M v' r b=none:=by
 intro b h1 h2 hlt;refine⟨(hrow.lab b hlt).trans h2,(hbut.block b ?_).trans (hg.block b hlt ?_),?_⟩
 · rintro rfl;rw[hc] at h1;cases h1
 · intro e;rw[hv b e.symm] at h1;cases h1
 · unfold labV
   rw[if_neg]
   · exact h1
   · intro e
     rcases h3 with h3|h3
     · rw[hv b (h3 ▸ e)] at h1;cases h1
     · have:=h3 b e;omega
theorem WK.addDeal {w1:World} {v':Value} (h:WK B be w0 ks W w) (d:Dl) (hd:d.ops=[]) (hb:Below w.heap.size w w1)
 (ho:w'.ownsRow 0 130 6 v' (B.ds.length+1) (dealsCs B.ds++dealCs d (.slice none 0 0))) (hg:w1.grownBy w' B.vd.ownBlock) (h3:v'.ownBlock=B.vd.ownBlock∨∀ g,v'.ownBlock=some g→w1.heap.size≤g):
 ∃ B',B'.bw=B.bw∧w'.cell? ⟨B.bw,1,none⟩=some B.vd∧w'.frozen? ⟨B.bw,1,none⟩=false∧WK B' be w0 ks {W with deals:=W.deals++[d]} (w'.setCell ⟨B.bw,1,none⟩ v'):=by
 have h1:=h.below hb;have hge:∀ b r,B.M b=some r→w0.heap.size≤b:=fun b r=>h1.ge
 obtain⟨A,rfl,l,r,g,t⟩:=h1.ex;have htm:TmpRow A.L B.vd:=fun b hb=>r.tie b _ ((r.mem.all .tale).2 b hb)
 obtain⟨L',hrow,htm'⟩:=append_tmp l htm ho hg h3;have hgr:=r.mem.grown .tale (v:=B.vd) (v':=v') (n':=B.ds.length+1) rfl hg ho h3;obtain⟨hm,hgm⟩:=hgr;have hc1:=hm.cell (r:=.eng) (b:=B.bw) (cs:=worldCs A.be B W) (T:=37) (updE_other _ _ (by simp)) 1 (v:=B.vd) rfl;have hc2:=hm.frozen (r:=.eng) (b:=B.bw) (cs:=worldCs A.be B W) (T:=37) (updE_other _ _ (by simp)) 1;have hp:=hm.put .eng (b:=B.bw) (cs:=worldCs A.be B W) (T:=37) (updE_other _ _ (by simp)) 1 v';have hbw:B.M B.bw=some .eng:=(r.mem.all .eng).1;have hlt:B.bw<w1.heap.size:=r.lt hbw;have hlb:L' B.bw=some .tmp:=(hrow.lab _ hlt).trans (r.tie _ _ hbw);have hbut:=But.setCell w' ⟨B.bw,1,none⟩ v';have hsoft:=hbut.soft hlb;refine⟨{B with M:=labV B.M v' .tale,vd:=v',ds:=B.ds++[(d,.slice none 0 0)],cs:=fun k=>if k=B.ds.length then [] else B.cs k},rfl,hc1,hc2,{A with L:=L'},rfl,?_,⟨fun b q hbq=>?_,⟨fun q=>?_,hp.fresh⟩,fun k p hk=>?_,?_,r.i8,r.o8⟩,?_,KW.soft (hrow.soft.trans hsoft) (far_app (r:=.tale) hrow hbw (fun g hg=>(r.mem.all .tale).2 g hg) hg h3 hbut) t⟩
 · exact (l.rown hrow).but hlb hbut
 · replace hbq:labV B.M v' .tale b=some q:=hbq
   unfold labV at hbq
   split at hbq
   · rename_i hv
     exact htm' b hv
   · exact (hrow.lab b (r.lt hbq)).trans (r.tie b q hbq)
 · have hq:=hp.all q
   cases q with
   |eng=>exact hq
   |tale=>
    rw[updE_other _ _ (by simp),updE_same] at hq;show Entry.Holds _ _ _ (.own v' _ 6 (B.ds++[(d,_)]).length (dealsCs (B.ds++[(d,_)])));rw[dealsCs_one,List.length_append];exact hq
   |free=>rw[updE_other _ _ (by simp),updE_other _ _ (by simp)] at hq;exact hq
   |reads k=>
    rw[updE_other _ _ (by simp),updE_other _ _ (by simp)] at hq
    by_cases hk:k=B.ds.length
    · subst hk
      simp only[wmem];rw[List.getElem?_append_right (Nat.le_refl _),Nat.sub_self];show Entry.Holds _ _ _ (.own (.slice none 0 0) _ 9 d.ops.length _);rw[hd];simp only[if_true,List.length_nil];exact⟨World.ownsRow_nil _ _ _ _,fun g hg=>by cases hg⟩
    · simp only[wmem] at hq ⊢
      rw[if_neg hk]
      rcases Nat.lt_or_ge k B.ds.length with h4|h4
      · rw[List.getElem?_append_left h4];exact hq
      · rw[List.getElem?_eq_none (by simp;omega)];trivial
   |_=>trivial
 · by_cases hkl:k=B.ds.length
   · subst hkl
     rw[List.getElem?_append_right (Nat.le_refl _),Nat.sub_self] at hk;obtain rfl:=Option.some.inj hk;rw[hd];show Cls _ _ [] (if B.ds.length=B.ds.length then [] else _);rw[if_pos rfl];rfl
   · have h4:k<B.ds.length:=by
      have:=(List.getElem?_eq_some_iff.1 hk).1;simp at this;omega
     rw[List.getElem?_append_left h4] at hk;show Cls L' _ _ (if k=B.ds.length then [] else B.cs k);rw[if_neg hkl];exact ((r.cls k p hk).soft hrow.soft).soft hsoft
 · rw[List.map_append,r.dl];rfl
 · exact (g.rown hrow (fun b hb=>hge b _ ((r.mem.all .tale).2 b hb))).but (hge _ _ hbw) hbut
end
def wBeginOk (W:Wd) (s level:Nat):Option Wd:=
 match beginOk W.σ s level with
 |some (σ1,id)=>
  if id=W.deals.length+1∧W.ids.getD s 0=0∧σ1.now=W.σ.now+1∧W.σ.word 0<18446744073709551616∧σ1.word 0<18446744073709551616∧W.deals.length<100000 then
   some {W with σ:=σ1,ids:=W.ids.set s id,deals:=W.deals++[⟨id,level,1,W.σ.now+1,0,[]⟩]}
  else none
 |none=>none
theorem wbegin_any {B:WBook} {be:Nat} {w0 w:World} {ks:List Kept} {W W':Wd} (h:WK B be w0 ks W w) {s level:Nat} (hs:s<8) (hr:wBeginOk W s level=some W'):
 Calls Tryz.prog 29 #[.pointer (some ⟨B.bw,0,none⟩),zi (s:Int),zi (level:Int)] w fun e w'=>e=.returned (.bool true)∧∃ B',B'.bw=B.bw∧WK B' be w0 ks W' w':=by
 obtain⟨ii,hii,hz0,hz1,hz2⟩:=info_parts infoDl;unfold wBeginOk at hr
 split at hr
 · rename_i σ1 id hbe
   split at hr
   · rename_i hh
     obtain⟨h1,h2,h3,h4,h5,h6⟩:=hh;obtain rfl:=Option.some.inj hr;have hdl:=h.dlen;obtain⟨va,vc,hvd,hc1,hc2,_⟩:=Ow.own_form h.deals;rw[hdl] at hvd;have i8:=h.i8;obtain⟨n,hn⟩:∃ n,n=W.deals.length:=⟨_,rfl⟩
     obtain⟨nw,hnw⟩:∃ nw,nw=W.σ.now:=⟨_,rfl⟩
     have hnwb:nw<281474976710656:=by rw[hnw];unfold St.now timeOf;omega
     have N1:=zH (now_wk h h4);have N2:Hid (∀ w1,WK B be w0 ks W w1→Calls Tryz.prog 21 #[.pointer (some ⟨be,0,none⟩),zi (s:Int),zi (level:Int)] w1 fun e w'=>e=.returned (.tuple #[zi (id:Int),zi 0])∧WK B be w0 ks {W with σ:=σ1} w'):=fun w1 q=>begin_wk q hs hbe
     have N3:Hid (∀ w1,WK B be w0 ks {W with σ:=σ1} w1→Calls Tryz.prog 27 #[.pointer (some ⟨be,0,none⟩)] w1 fun e w'=>e=.returned (zu ((nw:Int)+1))∧WK B be w0 ks {W with σ:=σ1} w'):=fun w1 q=>by
      have hh:=now_wk q h5;rw[show ({W with σ:=σ1}:Wd).σ.now=nw+1 by rw[hnw];exact h3] at hh;exact hh
     rw[←hnw] at N1;have C:Hid (∀ σ' w1,WK B be w0 ks {W with σ:=σ'} w1→w1.cell? ⟨B.bw,0,none⟩=some (.pointer (some ⟨be,0,none⟩))∧w1.cell? ⟨B.bw,1,none⟩=some (.slice va n vc)∧w1.cell? ⟨B.bw,2+s,none⟩=some (zi 0)∧w1.frozen? ⟨B.bw,2+s,none⟩=false):=fun σ' w1 q=>by
      have y1:=(q.wcell 1 rfl).1;have y2:=q.wcell (2+s) (worldCs_id (W:={W with σ:=σ'}) i8 hs);rw[show ({W with σ:=σ'}:Wd).ids.getD s 0=0 from h2] at y2;rw[hvd,←hn] at y1;exact⟨(q.wcell 0 rfl).1,y1,y2.1,y2.2⟩
     have D:Hid (∀ w1,WK B be w0 ks {W with σ:=σ1} w1→(w1.setCell ⟨B.bw,2+s,none⟩ (zi (id:Int))).cell? ⟨B.bw,1,none⟩=some (.slice va n vc)∧WK B be w0 ks {W with σ:=σ1,ids:=W.ids.set s id} (w1.setCell ⟨B.bw,2+s,none⟩ (zi (id:Int)))):=fun w1 q=>by
      have q2:=q.putId hs id;have y1:=(q2.wcell 1 rfl).1;rw[hvd,←hn] at y1;exact⟨y1,q2⟩
     have x0:=(C.out W.σ w h).1;have b0:((s:Int)<0)=False:=by simp
     have b1:((7:Int)<(s:Int))=False:=by simp;omega
     have b2:(0:Int)≤(s:Int):=by omega
     have b3:(s:Int)<8:=by omega
     have b4:decide ((s:Int)<0)=false:=by simp
     have b5:decide ((7:Int)<(s:Int))=false:=by simp;omega
     have b6:(7<s)=False:=by simp;omega
     have e1:((id:Int)==(n:Int)+1)=true:=by simp;omega
     have e2:((id:Int) !=(n:Int)+1)=false:=by simp;omega
     have e3:((id:Int)=(n:Int)+1)=True:=by simp;omega
     have n1:IntKind.i64.wrap ((n:Int)+1)=(n:Int)+1:=by rw[IntKind.wrap_i64];omega
     have n2:IntKind.u64.wrap ((nw:Int)+1)=(nw:Int)+1:=by rw[IntKind.wrap_u64];omega
     have T0:=zH h;have HV:=zH (zA hvd (zA hdl (zA hn (zA h1 (zA h6 hnw)))));clear h hr hbe h1 h2 h3 h4 h5 h6 hvd hdl hn hnw i8 hs hc1 hc2 hnwb;go_enter Tryz.func29,Tryz.ntmps29;go_upto_region 8 with (first|(go_at_call 27;refine N1.out.mono ?_;clear T0;rintro e w1 ⟨rfl,q⟩;obtain⟨x1,_⟩:=C.out W.σ w1 q;have T1:=zH q;clear q)|(go_at_call 21;refine (N2.out _ T1.out).mono ?_;rintro e w2 ⟨rfl,q⟩;obtain⟨y0,y1,y2,y3⟩:=C.out σ1 w2 q;have T2:=zH q;clear q T1)|(go_at_call 27;refine (N3.out _ T2.out).mono ?_;clear T2;rintro e w3 ⟨rfl,q⟩;obtain⟨z0,z1,z2,z3⟩:=C.out σ1 w3 q;obtain⟨z4,q2⟩:=D.out w3 q;have T3:=zH q2;clear q q2))
     go_wp2_with (refine Ow.wpList_append_to _ rfl (.tmp 83) (.tmp 89) 32 rfl 0 130 ii _ 6 64 Tryz.underlying32 hii hz0 hz1 hz2 rfl (by decide) (.slice va n vc) n (dealsCs B.ds) rfl (by have k:=(T3.out.alloc (.cells #[zi (id:Int),zi (level:Int),zi 1,zu ((nw:Int)+1),zu 0,.slice none 0 0] 130)).deals;rw[HV.out.1,HV.out.2.1,←HV.out.2.2.1] at k;exact k) ⟨w3.heap.size,0,none⟩ 1 1 (by omega) [zi (id:Int),zi (level:Int),zi 1,zu ((nw:Int)+1),zu 0,.slice none 0 0] rfl rfl (fun j u hu=>Ow.new_row (w3.setCell ⟨B.bw,2+s,none⟩ (zi (id:Int))) [zi (id:Int),zi (level:Int),zi 1,zu ((nw:Int)+1),zu 0,.slice none 0 0] _ w3.heap.size (by simp[World.setCell]) j u hu) (by intro u hu;simp at hu;rcases hu with rfl|rfl|rfl|rfl|rfl|rfl<;>rfl) (by have:=HV.out.2.2.1;have:=HV.out.2.2.2.2.1;unfold maxLen;omega) (by have:=HV.out.2.2.1;have:=HV.out.2.2.2.2.1;omega) (Nat.zero_le _) ?_;intro v' w8 q1 q2 q3;obtain⟨B',r1,r2,r3,r4⟩:=T3.out.addDeal ⟨id,level,1,nw+1,0,[]⟩ rfl ((Below.refl _ _).alloc (Nat.le_refl _) (.cells #[zi (id:Int),zi (level:Int),zi 1,zu ((nw:Int)+1),zu 0,.slice none 0 0] 130)) (by have k1:=HV.out.2.1;have k2:=HV.out.2.2.1;rw[k1,←k2];exact q1) (by rw[HV.out.1,←HV.out.2.2.1];exact q2) (by rw[HV.out.1,←HV.out.2.2.1];exact q3);rw[HV.out.1,←HV.out.2.2.1] at r2;obtain⟨av8,cp8,rfl,_⟩:=Ow.own_form q1;have T4:=zH (zA r1 r4);clear q1 q2 q3 r1 r4);go_ret;have k:=T4.out;rw[HV.out.2.2.2.2.2] at k;exact⟨rfl,B',k.1,k.2⟩
   · cases hr
 · cases hr
theorem refOpOk (o:En.Op) (h:opOk o=true) (w:World):Calls Tryz.prog 65 #[.agg #[zi (o.kind:Int),zi (o.key:Int),zi (o.hi:Int),zi (o.value:Int)]] w fun e w'=>e=.returned (.bool true)∧Below w.heap.size w w':=by
 have hb:Below w.heap.size w (w.alloc (.cells #[zi (o.kind:Int),zi (o.key:Int),zi (o.hi:Int),zi (o.value:Int)] 28)):=(Below.refl _ _).alloc (Nat.le_refl _) _;have HB:=zH hb;clear hb;obtain⟨kind,key,hi,value⟩:=o;unfold opOk at h;simp only at h HB ⊢;have hk:kind=1∨kind=2∨kind=3∨kind=4∨kind=5∨kind=6∨kind=7:=by
  by_cases h1:kind=1;exact .inl h1
  by_cases h2:kind=2;exact .inr (.inl h2)
  by_cases h3:kind=3;exact .inr (.inr (.inl h3))
  by_cases h4:kind=4;exact .inr (.inr (.inr (.inl h4)))
  by_cases h5:kind=5;exact .inr (.inr (.inr (.inr (.inl h5))))
  by_cases h6:kind=6;exact .inr (.inr (.inr (.inr (.inr (.inl h6)))))
  by_cases h7:kind=7;exact .inr (.inr (.inr (.inr (.inr (.inr h7)))))
  simp[h1,h2,h3,h4,h5,h6,h7] at h
 have p0:decide ((0:Int)≤(key:Int))=true:=by simp
 have p1:((0:Int)≤(key:Int))=True:=by simp
 have p2:decide ((0:Int)≤(value:Int))=true:=by simp
 have p3:((0:Int)≤(value:Int))=True:=by simp
 rcases hk with rfl|rfl|rfl|rfl|rfl|rfl|rfl
 · simp only[Bool.and_eq_true,decide_eq_true_eq,beq_iff_eq] at h
   obtain⟨⟨hx,rfl⟩,rfl⟩:=h;have a1:decide ((key:Int)≤(63:Int))=true:=by simp;omega
   have a2:((key:Int)≤(63:Int))=True:=by simp;omega
   clear hx;go_enter Tryz.func65,Tryz.ntmps65;go_wp2;go_ret;exact⟨rfl,HB.out⟩
 · simp only[Bool.and_eq_true,decide_eq_true_eq,beq_iff_eq] at h
   obtain⟨⟨hx,rfl⟩,hy⟩:=h;have a1:decide ((key:Int)≤(63:Int))=true:=by simp;omega
   have a2:((key:Int)≤(63:Int))=True:=by simp;omega
   have c1:decide ((value:Int)≤(65535:Int))=true:=by simp;omega
   have c2:((value:Int)≤(65535:Int))=True:=by simp;omega
   clear hx hy;go_enter Tryz.func65,Tryz.ntmps65;go_wp2;go_ret;exact⟨rfl,HB.out⟩
 · simp only[Bool.and_eq_true,decide_eq_true_eq,beq_iff_eq] at h
   obtain⟨⟨hx,rfl⟩,hy⟩:=h;have a1:decide ((key:Int)≤(63:Int))=true:=by simp;omega
   have a2:((key:Int)≤(63:Int))=True:=by simp;omega
   have c1:decide ((value:Int)≤(65535:Int))=true:=by simp;omega
   have c2:((value:Int)≤(65535:Int))=True:=by simp;omega
   clear hx hy;go_enter Tryz.func65,Tryz.ntmps65;go_wp2;go_ret;exact⟨rfl,HB.out⟩
 · simp only[Bool.and_eq_true,decide_eq_true_eq,beq_iff_eq] at h
   obtain⟨⟨hx,rfl⟩,rfl⟩:=h;have a1:decide ((key:Int)≤(63:Int))=true:=by simp;omega
   have a2:((key:Int)≤(63:Int))=True:=by simp;omega
   clear hx;go_enter Tryz.func65,Tryz.ntmps65;go_wp2;go_ret;exact⟨rfl,HB.out⟩
 · simp only[Bool.and_eq_true,decide_eq_true_eq,beq_iff_eq] at h
   obtain⟨⟨⟨hx,hy⟩,hz⟩,rfl⟩:=h;have a1:decide ((key:Int)≤(63:Int))=true:=by simp;omega
   have a2:((key:Int)≤(63:Int))=True:=by simp;omega
   have b1:decide ((key:Int)≤(hi:Int))=true:=by simp;omega
   have b2:((key:Int)≤(hi:Int))=True:=by simp;omega
   have e1:decide ((hi:Int)≤(63:Int))=true:=by simp;omega
   have e2:((hi:Int)≤(63:Int))=True:=by simp;omega
   clear hx hy hz;go_enter Tryz.func65,Tryz.ntmps65;go_wp2;go_ret;exact⟨rfl,HB.out⟩
 · simp only[Bool.and_eq_true,decide_eq_true_eq,beq_iff_eq] at h
   obtain⟨⟨rfl,rfl⟩,rfl⟩:=h;go_enter Tryz.func65,Tryz.ntmps65;go_wp2;go_ret;exact⟨rfl,HB.out⟩
 · simp only[Bool.and_eq_true,decide_eq_true_eq,beq_iff_eq] at h
   obtain⟨⟨rfl,rfl⟩,rfl⟩:=h;go_enter Tryz.func65,Tryz.ntmps65;go_wp2;go_ret;exact⟨rfl,HB.out⟩
theorem obj_cell {w:World} {g:Nat} {cs:Array Value} {T:TypeId} (h:w.heap[g]? =some (.cells cs T)) (i:Nat) {v:Value} (hv:cs[i]? =some v):w.cell? ⟨g,i,none⟩=some v:=by
 rw[cell_of_row w g i _ _ _ h];exact hv
def wIssueOk (W:Wd) (s:Nat) (o:En.Op):Option Wd:=
 match issueOk W.σ s o with
 |some σ1=>if opOk o=true∧W.ids.getD s 0≠0∧(W.σ.status s).busy=false∧((W.σ.status s).ops<12∨6≤o.kind)∧(σ1.status s).busy=true then some {W with σ:=σ1,ops:=W.ops.set s o} else none
 |none=>none
theorem worldCs_len {be:Nat} {B:WBook} {W:Wd} (h8:W.ids.length=8) (o8:W.ops.length=8):(worldCs be B W).length=43:=by
 have hl:(W.ops.flatMap opC).length=32:=by rw[opC_len,o8]
 unfold worldCs;simp only[List.length_append,List.length_cons,List.length_nil,List.length_map,hl,h8]
theorem WK.there {B:WBook} {be:Nat} {w0 w:World} {ks:List Kept} {W:Wd} (h:WK B be w0 ks W w) {s:Nat} (hs:s<8):w.there B.bw (10+s*4) 4:=by
 intro j hj;have hlen:=worldCs_len (be:=be) (B:=B) h.i8 h.o8;obtain⟨v,hv⟩:∃ v,(worldCs be B W)[10+s*4+j]? =some v:=⟨_,List.getElem?_eq_getElem (by rw[hlen];omega)⟩
 have:=h.wcell _ hv;exact⟨by rw[this.1];rfl,this.2⟩
theorem wissue_any {B:WBook} {be:Nat} {w0 w:World} {ks:List Kept} {W W':Wd} (h:WK B be w0 ks W w) {s:Nat} (hs:s<8) (o:En.Op) (hr:wIssueOk W s o=some W'):
 Calls Tryz.prog 30 #[.pointer (some ⟨B.bw,0,none⟩),zi (s:Int),.agg #[zi (o.kind:Int),zi (o.key:Int),zi (o.hi:Int),zi (o.value:Int)]] w fun e w'=>e=.returned (.bool true)∧WK B be w0 ks W' w':=by
 unfold wIssueOk at hr
 split at hr
 · rename_i σ1 hbe
   split at hr
   · rename_i hh
     obtain⟨h1,h2,h3,h4,h5⟩:=hh;obtain rfl:=Option.some.inj hr;obtain⟨lv,wt,a1,a2,a3,a4,a5,ops,hst,hop⟩:∃ lv wt a1 a2 a3 a4 a5,∃ ops:Nat,statusCs (W.σ.status s)=#[.bool lv,.bool false,.bool wt,zi a1,zi a2,zi a3,zu a4,zu a5,zi (ops:Int)]∧((o.kind<6∧ops<12)∨6≤o.kind):=by
      refine⟨(W.σ.status s).live,(W.σ.status s).waits,((W.σ.status s).id:Int),((W.σ.status s).level:Int),((W.σ.status s).state:Int),((W.σ.status s).begin_:Int),((W.σ.status s).end_:Int),(W.σ.status s).ops,?_,by omega⟩;unfold statusCs;rw[h3]
     obtain⟨id,hid,hid0⟩:∃ id,id=W.ids.getD s 0∧id≠0:=⟨_,rfl,h2⟩
     have N1:Hid (∀ ks w1,WK B be w0 ks W w1→Calls Tryz.prog 9 #[.pointer (some ⟨be,0,none⟩),zi (s:Int)] w1 fun e w'=>e=.returned (.agg #[.bool lv,.bool false,.bool wt,zi a1,zi a2,zi a3,zu a4,zu a5,zi (ops:Int)])∧WK B be w0 ks W w'):=fun ks w1 q=>by
      have hh:=status_wk q s hs;rw[hst] at hh;exact hh
     have N2:Hid (∀ ks w1,WK B be w0 ks W w1→Calls Tryz.prog 22 #[.pointer (some ⟨be,0,none⟩),zi (s:Int),.agg #[zi (o.kind:Int),zi (o.key:Int),zi (o.hi:Int),zi (o.value:Int)]] w1 fun e w'=>e=.returned (zi 0)∧WK B be w0 ks {W with σ:=σ1} w'):=fun ks w1 q=>issue_wk q hs hbe
     have N3:Hid (∀ w1,Calls Tryz.prog 65 #[.agg #[zi (o.kind:Int),zi (o.key:Int),zi (o.hi:Int),zi (o.value:Int)]] w1 fun e w'=>e=.returned (.bool true)∧Below w1.heap.size w1 w'):=fun w1=>refOpOk o h1 w1
     have N4:Hid (∀ W2 ks w1,W2.σ=σ1→WK B be w0 ks W2 w1→Calls Tryz.prog 9 #[.pointer (some ⟨be,0,none⟩),zi (s:Int)] w1 fun e w'=>∃ y1 y2 y3 y4 y5 y6 y7 y8,e=.returned (.agg #[y1,.bool true,y2,y3,y4,y5,y6,y7,y8])∧WK B be w0 ks W2 w'):=fun W2 ks w1 e2 q=>by
      have hh:=status_wk q s hs;unfold statusCs at hh;rw[e2,h5] at hh;exact hh.mono fun e w' x=>⟨_,_,_,_,_,_,_,_,x.1,x.2⟩
     have i8:=h.i8;have C:Hid (∀ σ' ks w1,WK B be w0 ks {W with σ:=σ'} w1→w1.cell? ⟨B.bw,0,none⟩=some (.pointer (some ⟨be,0,none⟩))∧w1.cell? ⟨B.bw,2+s,none⟩=some (zi (id:Int))):=fun σ' ks w1 q=>by
      have y2:=q.wcell (2+s) (worldCs_id (W:={W with σ:=σ'}) i8 hs);rw[show ({W with σ:=σ'}:Wd).ids.getD s 0=id from hid.symm] at y2;exact⟨(q.wcell 0 rfl).1,y2.1⟩
     have D:Hid (∀ ks w1,WK B be w0 ks {W with σ:=σ1} w1→(∃ u0 u1 u2 u3,w1.cell? ⟨B.bw,10+s*4,none⟩=some u0∧w1.cell? ⟨B.bw,10+s*4+1,none⟩=some u1∧w1.cell? ⟨B.bw,10+s*4+2,none⟩=some u2∧w1.cell? ⟨B.bw,10+s*4+3,none⟩=some u3∧w1.frozen? ⟨B.bw,10+s*4,none⟩=false∧w1.frozen? ⟨B.bw,10+s*4+1,none⟩=false∧w1.frozen? ⟨B.bw,10+s*4+2,none⟩=false∧w1.frozen? ⟨B.bw,10+s*4+3,none⟩=false)∧WK B be w0 ks {W with σ:=σ1,ops:=W.ops.set s o} (w1.setCells B.bw (10+s*4) [zi (o.kind:Int),zi (o.key:Int),zi (o.hi:Int),zi (o.value:Int)])):=fun ks w1 q=>by
      refine⟨?_,q.putOp hs o⟩;obtain⟨t0,f0⟩:=q.there hs 0 (by omega);obtain⟨t1,f1⟩:=q.there hs 1 (by omega);obtain⟨t2,f2⟩:=q.there hs 2 (by omega);obtain⟨t3,f3⟩:=q.there hs 3 (by omega);obtain⟨u0,k0⟩:=Option.isSome_iff_exists.1 t0;obtain⟨u1,k1⟩:=Option.isSome_iff_exists.1 t1;obtain⟨u2,k2⟩:=Option.isSome_iff_exists.1 t2;obtain⟨u3,k3⟩:=Option.isSome_iff_exists.1 t3;exact⟨u0,u1,u2,u3,k0,k1,k2,k3,f0,f1,f2,f3⟩
     have O0:Hid (∀ ks W1 w1 g,WK B be w0 (.obj g (.cells #[zi (o.kind:Int),zi (o.key:Int),zi (o.hi:Int),zi (o.value:Int)] 28)::ks) W1 w1→w1.cell? ⟨g,0,none⟩=some (zi (o.kind:Int))∧w1.cell? ⟨g,1,none⟩=some (zi (o.key:Int))∧w1.cell? ⟨g,2,none⟩=some (zi (o.hi:Int))∧w1.cell? ⟨g,3,none⟩=some (zi (o.value:Int))):=fun ks W1 w1 g q=>by
      have hb:=q.obj (List.mem_cons_self);exact⟨obj_cell hb 0 rfl,obj_cell hb 1 rfl,obj_cell hb 2 rfl,obj_cell hb 3 rfl⟩
     have O1:Hid (∀ ks W1 w1 g,WK B be w0 (.obj g (.cells #[.bool lv,.bool false,.bool wt,zi a1,zi a2,zi a3,zu a4,zu a5,zi (ops:Int)] 40)::ks) W1 w1→w1.cell? ⟨g,1,none⟩=some (.bool false)∧w1.cell? ⟨g,8,none⟩=some (zi (ops:Int))):=fun ks W1 w1 g q=>by
      have hb:=q.obj (List.mem_cons_self);exact⟨obj_cell hb 1 rfl,obj_cell hb 8 rfl⟩
     have b0:((s:Int)<0)=False:=by simp
     have b1:((7:Int)<(s:Int))=False:=by simp;omega
     have b2:(0:Int)≤(s:Int):=by omega
     have b3:(s:Int)<8:=by omega
     have b4:decide ((s:Int)<0)=false:=by simp
     have b5:decide ((7:Int)<(s:Int))=false:=by simp;omega
     have b6:(7<s)=False:=by simp;omega
     have e1:((id:Int)==0)=false:=by simp;omega
     have e3:((id:Int)=0)=False:=by simp;omega
     have e4:(id=0)=False:=by simp;omega
     have T0:=zH (h.alloc (.cells #[zi (o.kind:Int),zi (o.key:Int),zi (o.hi:Int),zi (o.value:Int)] 28));have G0:=zH h.lt;have x0:=(C.out W.σ _ _ T0.out).1;obtain⟨o0,o1,o2,o3⟩:=O0.out _ _ _ _ T0.out;have HO:Hid (∀ ks W1 w1 g,WK B be w0 (.obj g (.cells #[.bool lv,.bool false,.bool wt,zi a1,zi a2,zi a3,zu a4,zu a5,zi (ops:Int)] 40)::.obj w.heap.size (.cells #[zi (o.kind:Int),zi (o.key:Int),zi (o.hi:Int),zi (o.value:Int)] 28)::ks) W1 w1→w1.cell? ⟨w.heap.size,0,none⟩=some (zi (o.kind:Int))∧w1.cell? ⟨w.heap.size,1,none⟩=some (zi (o.key:Int))∧w1.cell? ⟨w.heap.size,2,none⟩=some (zi (o.hi:Int))∧w1.cell? ⟨w.heap.size,3,none⟩=some (zi (o.value:Int))):=fun ks W1 w1 g q=>O0.out _ _ _ _ q.tail
     clear h hr hbe h1 h2 h3 h4 h5 hst i8 hid hid0 hs;have hd:(decide ((o.kind:Int)<6)=true∧((o.kind:Int)<6)=True∧(o.kind<6)=True∧decide ((12:Int)≤(ops:Int))=false∧((12:Int)≤(ops:Int))=False∧(12≤ops)=False)∨(decide ((o.kind:Int)<6)=false∧((o.kind:Int)<6)=False∧(o.kind<6)=False):=by
      rcases hop with hop|hop
      · exact .inl ⟨by simp;omega,by simp;omega,by simp;omega,by simp;omega,by simp;omega,by simp;omega⟩
      · exact .inr ⟨by simp;omega,by simp;omega,by simp;omega⟩
     rcases hd with ⟨d1,d2,d3,d4,d5,d6⟩|⟨d1,d2,d3⟩
     all_goals (
      clear hop
      go_enter Tryz.func30,Tryz.ntmps30
      go_upto_region 2 with (go_at_call 9;refine (N1.out _ _ T0.out).mono ?_;rintro e w1 ⟨rfl,q⟩;have T1:=zH (q.alloc (.cells #[.bool lv,.bool false,.bool wt,zi a1,zi a2,zi a3,zu a4,zu a5,zi (ops:Int)] 40));clear q T0)
      generalize w1.alloc _=v1 at*
      generalize w1.heap.size=g1 at*
      generalize w.heap.size=g0 at*
      have T1d:=zH T1.out.drew
      obtain⟨u0,u1⟩:=C.out W.σ _ _ T1.out
      obtain⟨p0,p1,p2,p3⟩:=HO.out _ _ _ _ T1.out
      obtain⟨p4,p5⟩:=O1.out _ _ _ _ T1.out
      have HK2:Hid (∀ w',WK B be w0 (.obj g1 (.cells #[.bool lv,.bool false,.bool wt,zi a1,zi a2,zi a3,zu a4,zu a5,zi (ops:Int)] 40)::.obj g0 (.cells #[zi (o.kind:Int),zi (o.key:Int),zi (o.hi:Int),zi (o.value:Int)] 28)::ks) {W with σ:=σ1} w'→w'.cell? ⟨B.bw,0,none⟩=some (.pointer (some ⟨be,0,none⟩))∧w'.cell? ⟨g0,0,none⟩=some (zi (o.kind:Int))∧w'.cell? ⟨g0,1,none⟩=some (zi (o.key:Int))∧w'.cell? ⟨g0,2,none⟩=some (zi (o.hi:Int))∧w'.cell? ⟨g0,3,none⟩=some (zi (o.value:Int))):=fun w' q=>by
       obtain⟨c0,c1⟩:=C.out σ1 _ _ q
       obtain⟨d0,d1,d2,d3⟩:=HO.out _ _ _ _ q
       exact⟨c0,d0,d1,d2,d3⟩
      clear x0 o0 o1 o2 o3
      go_region_held3 (fun w'=>w'.cell? ⟨B.bw,0,none⟩=some (.pointer (some ⟨be,0,none⟩))∧w'.cell? ⟨g0,0,none⟩=some (zi (o.kind:Int))∧w'.cell? ⟨g0,1,none⟩=some (zi (o.key:Int))∧w'.cell? ⟨g0,2,none⟩=some (zi (o.hi:Int))∧w'.cell? ⟨g0,3,none⟩=some (zi (o.value:Int)))
       (first|exact⟨u0,p0,p1,p2,p3⟩|assumption|go_keep|exact HK2.out _ (by assumption))
       (first|(go_at_call 22;refine (N2.out _ _ T1d.out).mono ?_;rintro e w2 ⟨rfl,q⟩))
      obtain⟨x0,x1⟩:=C.out σ1 _ _ q
      obtain⟨y0,y1,y2,y3⟩:=HO.out _ _ _ _ q
      obtain⟨y4,y5⟩:=O1.out _ _ _ _ q
      have T2:=zH q
      clear q T1 T1d u0 u1 p0 p1 p2 p3 p4 p5 HK2
      go_upto_region 17 with (go_at_call 65;refine (N3.out _).mono ?_;rintro e w3 ⟨rfl,hb⟩;have q3:=T2.out.below hb;obtain⟨x0',x1'⟩:=C.out σ1 _ _ q3;obtain⟨z0,z1,z2,z3⟩:=HO.out _ _ _ _ q3;obtain⟨z4,z5⟩:=O1.out _ _ _ _ q3;have T3:=zH q3;clear q3 hb)
      obtain⟨⟨u0,u1,u2,u3,k0,k1,k2,k3,f0,f1,f2,f3⟩,m2⟩:=D.out _ _ T3.out
      have T4:=zH m2
      clear m2
      go_region
      have T5:Hid (WK B be w0 _ {W with σ:=σ1,ops:=W.ops.set s o} (World.drew ((((w3.setCell ⟨B.bw,10+s*4,none⟩ (zi (o.kind:Int))).setCell ⟨B.bw,10+s*4+1,none⟩ (zi (o.key:Int))).setCell ⟨B.bw,10+s*4+2,none⟩ (zi (o.hi:Int))).setCell ⟨B.bw,10+s*4+3,none⟩ (zi (o.value:Int))))):=zH T4.out.drew
      clear T4 T3 T2 k0 k1 k2 k3 f0 f1 f2 f3 z0 z1 z2 z3 z4 z5 x0 x1 x0' x1' y0 y1 y2 y3 y4 y5
      generalize World.drew _=w5 at*
      have x0:=(T5.out.wcell 0 rfl).1
      go_wp2_with (go_at_call 9;refine (N4.out _ _ _ rfl T5.out).mono ?_;rintro e w6 ⟨y1,y2,y3,y4,y5,y6,y7,y8,rfl,q⟩;have hf:=fld_busy (.bool true) y1 y2 y3 y4 y5 y6 y7 y8;have T6:=zH q;clear q T5)
      go_ret
      exact⟨rfl,T6.out.tail.tail⟩
     )
   · cases hr
 · cases hr
def wNew (n l:Nat):Wd:={σ:=new n l,deals:=[],ids:=List.replicate 8 0,ops:=List.replicate 8 ⟨0,0,0,0⟩,gone:=[]}
theorem wk_new {be:Nat} {w0 w:World} {σ:St} (h:EKt be w0 [] σ w):WK ⟨lab1 (fun _=>none) w.heap.size .eng,w.heap.size,.slice none 0 0,.slice none 0 0,[],fun _=>[]⟩ be w0 [] {σ:=σ,deals:=[],ids:=List.replicate 8 0,ops:=List.replicate 8 ⟨0,0,0,0⟩,gone:=[]} (w.alloc (.cells (worldCs be ⟨lab1 (fun _=>none) w.heap.size .eng,w.heap.size,.slice none 0 0,.slice none 0 0,[],fun _=>[]⟩ {σ:=σ,deals:=[],ids:=List.replicate 8 0,ops:=List.replicate 8 ⟨0,0,0,0⟩,gone:=[]}).toArray 37)):=by
 obtain⟨A,rfl,l,g,_⟩:=h.ex;obtain⟨_,g1,t1,t2⟩:=l.rep.newTmp (.cells (worldCs A.be ⟨lab1 (fun _=>none) w.heap.size .eng,w.heap.size,.slice none 0 0,.slice none 0 0,[],fun _=>[]⟩ {σ:=σ,deals:=[],ids:=List.replicate 8 0,ops:=List.replicate 8 ⟨0,0,0,0⟩,gone:=[]}).toArray 37);refine⟨A.tmp w.heap.size,rfl,l.newTmp _,⟨fun b r hb=>?_,⟨fun q=>?_,fun b hb=>?_⟩,(fun k p hk=>by cases hk),rfl,rfl,rfl⟩,g.trans g1,KW.nil⟩
 · by_cases hbb:b=w.heap.size
   · subst hbb;exact t1
   · replace hb:lab1 (fun _=>none) w.heap.size Role.eng b=some r:=hb
     rw[lab1_other hbb] at hb;cases hb
 · cases q with
   |eng=>exact⟨(lab1_same _ _ _:lab1 (fun _=>none) w.heap.size Role.eng w.heap.size=_),t2⟩
   |tale=>exact⟨World.ownsRow_nil _ _ _ _,fun g hg=>by cases hg⟩
   |free=>exact⟨World.ownsRow_nil _ _ _ _,fun g hg=>by cases hg⟩
   |reads k=>exact trivial
   |_=>exact trivial
 · have:w.heap.size+1≤b:=by simpa using hb
   exact (lab1_other (by omega):lab1 (fun _=>none) w.heap.size Role.eng b=none)
theorem wnew_any (n l:Nat) (h1:1≤n) (h2:n≤256) (h3:1≤l) (h4:l≤1099511627776) (w:World):
 Calls Tryz.prog 5 #[zi (n:Int),zu (l:Int)] w fun e w'=>∃ B be,e=.returned (.pointer (some ⟨B.bw,0,none⟩))∧WK B be w [] (wNew n l) w':=by
 have HN:Hid (Calls Tryz.prog 28 #[.agg #[zi (n:Int),zu (l:Int)]] w fun e w'=>∃ b,e=.returned (.tuple #[.pointer (some ⟨b,0,none⟩),zi 0])∧EKt b w [] (new n l) w'):=(new_at n l h1 h2 h3 h4 w).mono fun e w' ⟨b,h,q⟩=>⟨b,h,q.kt⟩
 clear h1 h2 h3 h4;go_enter Tryz.func5,Tryz.ntmps5;go_wp2_with (go_at_call 28;refine HN.out.mono ?_;rintro e w1 ⟨be,rfl,q⟩;have T1:=zH q;clear q);go_ret;exact⟨_,_,rfl,wk_new T1.out⟩
end Go.Proofs.YtmgghljjjpcgkaaGreat.Em
