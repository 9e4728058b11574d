import Derived.Test.YtbefcdjcefmicaaGreatKq42
import Derived.Test.YtbefcdjcefmicaaGreatKq38
namespace Go.Proofs.YtbefcdjcefmicaaGreat.Em
open Go.ChangeShapes Go.WideShapes Go.ChangeAt Go.RowKit En
set_option linter.unusedVariables false
set_option linter.unusedSimpArgs false
set_option maxRecDepth 100000
set_option maxHeartbeats 1600000
theorem least_exists {P:Nat→Prop} (h:∃ n,P n):∃ n,P n∧∀ m,m<n→¬ P m:=by
 obtain⟨n,hn⟩:=h
 induction n using Nat.strongRecOn with
 |_ n ih=>
  by_cases hm:∃ m,m<n∧P m
  · obtain⟨m,h1,h2⟩:=hm
    exact ih m h1 h2
  · exact⟨n,hn,fun m h1 h2=>hm ⟨m,h1,h2⟩⟩
open Classical in
noncomputable def leastF (P:Nat→Prop):Nat:=if h:∃ n,P n then Classical.choose (least_exists h) else 0
theorem leastF_spec {P:Nat→Prop} (h:∃ n,P n):P (leastF P):=by
 unfold leastF;rw[dif_pos h];exact (Classical.choose_spec (least_exists h)).1
theorem leastF_le {P:Nat→Prop} {n:Nat} (h:P n):leastF P≤n:=by
 have hh:∃ n,P n:=⟨n,h⟩
 unfold leastF;rw[dif_pos hh]
 rcases Nat.lt_or_ge n (Classical.choose (least_exists hh)) with h1|h1
 · exact absurd h ((Classical.choose_spec (least_exists hh)).2 n h1)
 · exact h1
def okWord (σ:St) (x:Nat):Bool:=decide (x<18446744073709551616)&&((rd x).1 !=2||(decide ((rd x).2≤2000)&&small σ (σ.place (rd x).2)))
def chainOk (σ:St):Nat→Nat→Bool
 |0,_=>false
 |n+1,link=>link==0||(vl σ link&&okWord σ (σ.word (wslot link 0))&&okWord σ (σ.word (wslot link 1))&&((σ.done (σ.word (wslot link 0))&&!σ.done (σ.word (wslot link 1)))||chainOk σ n (σ.word (wslot link 2))))
def okPairs (σ:St):Bool:=(List.range 64).all fun key=>chainOk σ (σ.slots+1) (σ.word (9+key))
def pairsTo (σ:St) (k:Nat):List (Nat×Nat):=(List.range k).filterMap fun key=>(σ.pairAt (σ.slots+1) (σ.word (9+key))).map fun v=>(key,v)
theorem pairsTo_succ (σ:St) (k:Nat):pairsTo σ (k+1)=pairsTo σ k++(match σ.pairAt (σ.slots+1) (σ.word (9+k)) with|some v=>[(k,v)]|none=>[]):=by
 unfold pairsTo;rw[List.range_succ,List.filterMap_append]
 congr 1
 cases h:σ.pairAt (σ.slots+1) (σ.word (9+k))<;>simp[h]
theorem pairsTo_le (σ:St) (k:Nat):(pairsTo σ k).length≤k:=by
 unfold pairsTo;have:=List.length_filterMap_le (fun key=>(σ.pairAt (σ.slots+1) (σ.word (9+key))).map fun v=>(key,v)) (List.range k)
 simpa using this
theorem wp_pair {ops:Array Oper} {rest:List Oper} {o:Oper} {a:Act} {Q:Exit→Act→World→Prop} (w:World) (hgd:o.guard=none) (s x:Operand)
 (ho:o.op=.call {callee:=.builtin .append,args:=#[s,x],argTypes:=#[40,40]})
 (w0:World) (hb:Below w0.heap.size w0 w) (av:Option Addr) (m cap:Nat) (xs:List Value) (hs:a.eval s=.slice av m cap) (hown:w.ownsRow w0.heap.size 140 2 (.slice av m cap) m xs) (hm:m<4000000)
 (t0 t1:Int) (hx:a.eval x=.slice (some ⟨w.heap.size,0,none⟩) 1 1)
 (h:∀ av' cap' w',w'.ownsRow w0.heap.size 140 2 (.slice av' (m+1) cap') (m+1) (xs++[zi t0,zi t1])→Below w0.heap.size w0 w'→wpList Tryz.prog ops Q rest (a.put o.dst (.slice av' (m+1) cap')) w'):
 wpList Tryz.prog ops Q (o::rest) a (w.alloc (.cells #[zi t0,zi t1] 140)):=by
 obtain⟨ii,hii,hz0,hz1,hz2⟩:=info_parts infoP;have hw:=hb.size;have hown':(w.alloc (.cells #[zi t0,zi t1] 140)).ownsRow w0.heap.size 140 2 (.slice av m cap) m xs:=own_same hown fun g hg=>Below.heap_alloc _ _ _ (hown.lt g hg).2
 refine Ow.wpList_append_to _ hgd s x 40 ho w0.heap.size 140 ii _ 2 16 Tryz.underlying40 hii hz0 hz1 hz2 rfl (by decide) (.slice av m cap) m xs hs hown' ⟨w.heap.size,0,none⟩ 1 1 (by omega) [zi t0,zi t1] hx rfl (fun j u hu=>Ow.new_row w [zi t0,zi t1] _ _ rfl j u hu) (by intro u hu;simp at hu;rcases hu with rfl|rfl<;>rfl) (by unfold maxLen;omega) (by omega) (by simp;omega) ?_;intro v' w' q1 q2 q3;obtain⟨av',cap',rfl,_⟩:=Ow.own_form q1;exact h av' cap' w' q1 ((hb.alloc hw _).grown q2 (by simp;omega) (fun g hg=>(hown.lt g hg).1))
theorem done_ok {A:Book} {σ:St} {w w1:World} (hR:Rep A σ w) (hb:Below w.heap.size w w1) {x:Nat} (h:okWord σ x=true):
 Calls Tryz.prog 63 #[.pointer (some ⟨A.be,0,none⟩),zu (x:Int)] w1 fun e w'=>e=.returned (.bool (σ.done x))∧Below w.heap.size w w':=by
 unfold okWord at h;simp only[Bool.and_eq_true,decide_eq_true_eq,Bool.or_eq_true,bne_iff_ne] at h;have hr:=hR.below hb;refine (done_any hr x h.1 fun h2=>?_).mono fun e w' hh=>⟨hh.1,hb.trans (hh.2.mono hb.size)⟩
 obtain⟨h3,h4⟩:=h.2.resolve_left (fun hn=>hn h2);exact⟨by omega,place_lt hR h3,small_iff h4⟩
theorem peek_ok {A:Book} {σ:St} {w w1:World} (hR:Rep A σ w) (hb:Below w.heap.size w w1) (i:Nat) (hi:i<σ.words.length):
 Calls Tryz.prog 60 #[.pointer (some ⟨A.ba,0,none⟩),zi (i:Int)] w1 fun e w'=>e=.returned (zu (σ.word i:Int))∧Below w.heap.size w w':=by
 refine (peek_any (hR.below hb) i hi).mono fun e w' hh=>?_
 obtain⟨h1,n,rfl⟩:=hh;exact⟨h1,hb.trans ⟨rfl,rfl,rfl,Nat.le_refl _,fun _ _=>rfl⟩⟩
theorem pairs_any {A:Book} {σ:St} {w:World} (hR:Rep A σ w) (hok:okPairs σ=true):
 Calls Tryz.prog 32 #[.pointer (some ⟨A.be,0,none⟩)] w fun e w'=>∃ av cap,e=.returned (.slice av σ.pairs.length cap)∧w'.ownsRow w.heap.size 140 2 (.slice av σ.pairs.length cap) σ.pairs.length (pairCs σ.pairs)∧Below w.heap.size w w':=by
 have hls:σ.pairs=pairsTo σ 64:=rfl;rw[hls];have HRR:=zH (zA hR hok);have HE2:Hid (∀ w',Below w.heap.size w w'→w'.cell? ⟨A.be,2,none⟩=some (.pointer (some ⟨A.ba,0,none⟩))):=fun w' hb=>(hR.below hb).eng 2 rfl
 clear hls hR hok;go_enter Tryz.func32,Tryz.ntmps32;go_wp2
 go_loopw [3,6] (fun l i wr=>∃ k:Nat,k≤64∧i=zi (k:Int)∧Below w.heap.size w wr∧∃ av cap,l=.slice av (pairsTo σ k).length cap∧wr.ownsRow w.heap.size 140 2 l (pairsTo σ k).length (pairCs (pairsTo σ k))) (fun _ i _=>64 - (intOf i).toNat)
 case atStart=>exact⟨0,by omega,rfl,Below.refl _ _,none,0,rfl,rfl,.inl ⟨rfl,rfl⟩⟩
 case round=>
  obtain⟨k,hk,rfl,hb,av,cap,rfl,hown⟩:=hrel
  by_cases hlt:k<64
  · have hR:=HRR.out.1
    have hch:chainOk σ (σ.slots+1) (σ.word (9+k))=true:=by
     have h:=HRR.out.2;unfold okPairs at h;rw[List.all_eq_true] at h;exact h k (List.mem_range.2 hlt)
    have e2:=HE2.out wr hb;have n1:IntKind.i64.wrap ((k:Int)+1)=(k:Int)+1:=by rw[IntKind.wrap_i64];omega
    have n9:IntKind.i64.wrap (9+(k:Int))=9+(k:Int):=by rw[IntKind.wrap_i64];omega
    have HP0 := zH (show Calls Tryz.prog 60 #[.pointer (some ⟨A.ba, 0, none⟩), zi (9 + (k : Int))] wr (fun e w' => e = .returned (zu (σ.word (9 + k) : Int)) ∧ Below wr.heap.size wr w') from by
      have h:=peek_ok (hR.below hb) (Below.refl _ _) (9+k) (by rw[hR.nw];omega)
      rw[show ((9+k:Nat):Int)=9+(k:Int) by omega] at h
      exact h)
    have HK0:=zH (zA hown (zA hch hlt));have hm0:=pairsTo_le σ k;clear hch;go_wp2_with (go_at_call 60;refine HP0.out.mono ?_;rintro e w1 ⟨rfl,hb1⟩);obtain⟨hown,hch,_⟩:=HK0.out;generalize hPP:σ.pairAt (σ.slots+1) (σ.word (9+k))=PP;have hsu:=pairsTo_succ σ k;rw[hPP] at hsu;have HSU:=zH hsu;generalize hmm:(pairsTo σ k).length=m at*;generalize hxs:pairCs (pairsTo σ k)=xs at*;have HMX:=zH (zA hmm hxs);have hm4:m<4000000:=by omega
    clear hsu hmm hxs hm0 hk
    go_loopw [3,5] (fun l v wr2=>∃ link:Nat,v=zu (link:Int)∧(∃ n,chainOk σ n link=true∧σ.pairAt n link=PP)∧Below w.heap.size w wr2∧l=.slice av m cap∧wr2.ownsRow w.heap.size 140 2 l m xs) (fun _ v _=>leastF fun n=>chainOk σ n (intOf v).toNat=true∧σ.pairAt n (intOf v).toNat=PP)
    case atStart=>exact⟨_,rfl,⟨_,hch,hPP⟩,hb.trans (hb1.mono hb.size),rfl,own_same hown fun g hg=>hb1.block g (hown.lt g hg).2⟩
    case round=>
     clear hown hch hPP hb hb1 e2;obtain⟨link,rfl,hex,hb2,rfl,hown2⟩:=hrel;have hsp:=leastF_spec (P:=fun n=>chainOk σ n link=true∧σ.pairAt n link=PP) hex;obtain⟨n0,hn0⟩:∃ n0,(leastF fun n=>chainOk σ n link=true∧σ.pairAt n link=PP)=n0:=⟨_,rfl⟩
     rw[hn0] at hsp;have HN0:=zH hn0;clear hex hn0;obtain⟨hc0,hp0⟩:=hsp
     cases n0 with
     |zero=>cases hc0
     |succ n0=>
     by_cases h0:link=0
     · have hP:PP=none:=by rw[←hp0];unfold St.pairAt;rw[if_pos h0]
       have HO2:=zH (zA hb2 (zA hown2 hP));have hlt':=hlt;obtain⟨fl1,fl2,fl3,fl4,fl5⟩:=zeT (x:=link) (c:=0) (ci:=0) (by omega);clear hc0 hp0 h0 hP hown2 hb2 hlt hlt';go_wp2
       go_roundw
       case rel=>
        obtain⟨hb2,hown2,hP⟩:=HO2.out;have hsu:=HSU.out;rw[hP] at hsu;simp only[List.append_nil] at hsu;exact⟨k+1,HK0.out.2.2,rfl,hb2,av,cap,by rw[hsu,HMX.out.1],by rw[hsu,HMX.out.1,HMX.out.2];exact hown2⟩
       case measure=>have:=HK0.out.2.2;simp[intOf];omega
     · unfold chainOk at hc0
       unfold St.pairAt at hp0;rw[if_neg h0] at hp0;rw[show (link==0)=false by simpa using h0,Bool.false_or] at hc0;simp only[Bool.and_eq_true] at hc0;obtain⟨⟨⟨hv,hw0⟩,hw1⟩,hc1⟩:=hc0;have hvl:=vl_iff hv;have hr2:=HRR.out.1.below hb2;have hsl2:=hr2.sl;have e2:=HE2.out wr hb2;have HKE:Hid (∀ w',Below wr.heap.size wr w'→w'.cell? ⟨A.be,2,none⟩=some (.pointer (some ⟨A.ba,0,none⟩))):=fun w' hb=>(hr2.below hb).eng 2 rfl
       obtain⟨ws,hws⟩:∃ ws:Int→Int,∀ k:Nat,ws (k:Int)=((wslot link k:Nat):Int):=⟨fun z=>((wslot link z.toNat:Nat):Int),fun k=>rfl⟩
       obtain⟨pw,hpw⟩:∃ pw:Int→Int,∀ i:Nat,pw (i:Int)=((σ.word i:Nat):Int):=⟨fun z=>((σ.word z.toNat:Nat):Int),fun k=>rfl⟩
       obtain⟨dn,hdn⟩:∃ dn:Int→Bool,∀ x:Nat,dn (x:Int)=σ.done x:=⟨fun z=>σ.done z.toNat,fun k=>rfl⟩
       have e0:ws 0=((wslot link 0:Nat):Int):=hws 0;have e1:ws 1=((wslot link 1:Nat):Int):=hws 1;have e2w:ws 2=((wslot link 2:Nat):Int):=hws 2;have p0:pw (ws 0)=((σ.word (wslot link 0):Nat):Int):=by rw[e0];exact hpw _
       have p1:pw (ws 1)=((σ.word (wslot link 1):Nat):Int):=by rw[e1];exact hpw _
       have p2:pw (ws 2)=((σ.word (wslot link 2):Nat):Int):=by rw[e2w];exact hpw _
       have x0:dn (pw (ws 0))=σ.done (σ.word (wslot link 0)):=by rw[p0];exact hdn _
       have x1:dn (pw (ws 1))=σ.done (σ.word (wslot link 1)):=by rw[p1];exact hdn _
       have HSL:Hid (∀ z:Int,(z=0∨z=1∨z=2)→∀ w0,Calls Tryz.prog 62 #[zu (link:Int),zi z] w0 fun e w'=>e=.returned (zi (ws z))∧w0=w'):=by
        rintro z (rfl|rfl|rfl) w0
        · rw[e0];exact slot_at link 0 0 rfl hvl.lo (by have:=hvl.hi;omega) hvl.u (by omega) w0
        · rw[e1];exact slot_at link 1 1 rfl hvl.lo (by have:=hvl.hi;omega) hvl.u (by omega) w0
        · rw[e2w];exact slot_at link 2 2 rfl hvl.lo (by have:=hvl.hi;omega) hvl.u (by omega) w0
       have HPK:Hid (∀ z:Int,(z=ws 0∨z=ws 1∨z=ws 2)→∀ w0,Below wr.heap.size wr w0→Calls Tryz.prog 60 #[.pointer (some ⟨A.ba,0,none⟩),zi z] w0 fun e w'=>e=.returned (zu (pw z))∧Below wr.heap.size wr w'):=by
        rintro z (rfl|rfl|rfl) w0 hb
        · rw[p0,e0];exact peek_ok hr2 hb _ (wslot_lt hr2 hvl.lo hvl.hi (by omega))
        · rw[p1,e1];exact peek_ok hr2 hb _ (wslot_lt hr2 hvl.lo hvl.hi (by omega))
        · rw[p2,e2w];exact peek_ok hr2 hb _ (wslot_lt hr2 hvl.lo hvl.hi (by omega))
       have HDN:Hid (∀ z:Int,(z=pw (ws 0)∨z=pw (ws 1))→∀ w0,Below wr.heap.size wr w0→Calls Tryz.prog 63 #[.pointer (some ⟨A.be,0,none⟩),zu z] w0 fun e w'=>e=.returned (.bool (dn z))∧Below wr.heap.size wr w'):=by
        rintro z (rfl|rfl) w0 hb
        · rw[x0,p0];exact done_ok hr2 hb hw0
        · rw[x1,p1];exact done_ok hr2 hb hw1
       have HDT:Hid (∀ w0,Below wr.heap.size wr w0→(∀ w1,w1=w0→Calls Tryz.prog 64 #[.pointer (some ⟨A.be,0,none⟩),zu (link:Int)] w1 fun e w'=>e=.returned (.pointer (some ⟨A.bv,2*slotOf link,none⟩))∧w1=w')∧w0.cell? ⟨A.bv,2*slotOf link+1,none⟩=some (zi (σ.valueOf link:Int))∧Below w.heap.size w w0∧w0.ownsRow w.heap.size 140 2 (.slice av m cap) m xs):=fun w0 hb=>⟨fun w1 e=>by subst e;exact data_any (hr2.below hb) link hvl.lo hvl.hi hvl.u,((hr2.below hb).val (slotOf_lt hvl)).2,hb2.trans (hb.mono hb2.size),own_same hown2 fun g hg=>hb.block g (hown2.lt g hg).2⟩
       have HB0:Below wr.heap.size wr wr.drew:=(Below.refl _ _).drew;have HM4:=zH hm4;rw[←x0,←x1] at hc1 hp0;have HC1:=zH (zA hc1 hp0);obtain⟨fl1,fl2,fl3,fl4,fl5⟩:=zeF (x:=link) (c:=0) (ci:=0) (by omega);clear hv hw0 hw1 hc1 hp0 hvl hr2 hsl2 hb2 hown2 h0 hlt hm4;clear hws hpw hdn e0 e1 e2w p0 p1 x0 x1;generalize σ.word (wslot link 2)=xn at*;have HP2:=zH p2;clear p2;go_wp2_with fail
       cases hdb:dn (pw (ws 0)) with
       |true=>
        rw[hdb] at HC1
        cases hde:dn (pw (ws 1)) with
        |true=>
         rw[hde] at HC1
         go_region_held3 (fun w'=>w'.cell? ⟨A.be,2,none⟩=some (.pointer (some ⟨A.ba,0,none⟩)))
          (first|exact e2|assumption|exact HKE.out _ (by assumption))
          (first|(go_at_call 62;refine (HSL.out _ (by first|exact Or.inl rfl|exact Or.inr (Or.inl rfl)|exact Or.inr (Or.inr rfl)) _).mono ?_;rintro e w' ⟨rfl,rfl⟩)|(go_at_call 60;refine (HPK.out _ (by first|exact Or.inl rfl|exact Or.inr (Or.inl rfl)|exact Or.inr (Or.inr rfl)) _ (by assumption)).mono ?_;rintro e w3 ⟨rfl,hb3⟩)|(go_at_call 63;refine (HDN.out _ (by first|exact Or.inl rfl|exact Or.inr rfl) _ (by assumption)).mono ?_;rintro e w4 ⟨rfl,hb4⟩))
         clear HB0;go_wp2_with fail;have e2':=HKE.out _ hb4;obtain⟨_,_,hbw,how⟩:=HDT.out _ hb4;have HBD:=(hb4).drew
         go_region_held3 (fun w'=>w'.cell? ⟨A.be,2,none⟩=some (.pointer (some ⟨A.ba,0,none⟩)))
          (first|exact e2'|assumption|exact HKE.out _ (by assumption))
          (first|(go_at_call 62;refine (HSL.out _ (by first|exact Or.inl rfl|exact Or.inr (Or.inl rfl)|exact Or.inr (Or.inr rfl)) _).mono ?_;rintro e w' ⟨rfl,rfl⟩)|(go_at_call 60;refine (HPK.out _ (by first|exact Or.inl rfl|exact Or.inr (Or.inl rfl)|exact Or.inr (Or.inr rfl)) _ (by assumption)).mono ?_;rintro e w7 ⟨rfl,hb7⟩))
         obtain⟨_,_,hbw7,how7⟩:=HDT.out _ hb7;have HO7:=zH (zA hbw7 how7);clear hbw how hbw7 how7;go_wp2_with fail
         go_roundw
         case rel=>
          obtain⟨hc1,hp0⟩:=HC1.out;exact⟨xn,by rw[HP2.out],⟨n0,by simpa using hc1,by simpa using hp0⟩,HO7.out.1,rfl,HO7.out.2⟩
         case measure=>
          obtain⟨hc1,hp0⟩:=HC1.out;rw[HP2.out];exact Nat.lt_of_le_of_lt (leastF_le (P:=fun n=>chainOk σ n xn=true∧σ.pairAt n xn=PP) ⟨by simpa using hc1,by simpa using hp0⟩) (Nat.lt_of_lt_of_eq (Nat.lt_succ_self n0) HN0.out.symm)
        |false=>
         rw[hde] at HC1
         go_region_held3 (fun w'=>w'.cell? ⟨A.be,2,none⟩=some (.pointer (some ⟨A.ba,0,none⟩)))
          (first|exact e2|assumption|exact HKE.out _ (by assumption))
          (first|(go_at_call 62;refine (HSL.out _ (by first|exact Or.inl rfl|exact Or.inr (Or.inl rfl)|exact Or.inr (Or.inr rfl)) _).mono ?_;rintro e w' ⟨rfl,rfl⟩)|(go_at_call 60;refine (HPK.out _ (by first|exact Or.inl rfl|exact Or.inr (Or.inl rfl)|exact Or.inr (Or.inr rfl)) _ (by assumption)).mono ?_;rintro e w3 ⟨rfl,hb3⟩)|(go_at_call 63;refine (HDN.out _ (by first|exact Or.inl rfl|exact Or.inr rfl) _ (by assumption)).mono ?_;rintro e w4 ⟨rfl,hb4⟩))
         clear HB0;obtain⟨hdt,hval,hbw,how⟩:=HDT.out _ hb4;have HDD:=zH (hdt _ rfl);have hm4:=HM4.out;have hPv:PP=some (σ.valueOf link):=by have h:=HC1.out.2;simpa using h.symm
         have HPV:=zH hPv;clear hdt hPv;generalize 2*slotOf link=iv at*;generalize σ.valueOf link=va at*;go_wp2_with (first|(go_at_call 64;refine HDD.out.mono ?_;rintro e w' ⟨rfl,rfl⟩)|(refine wp_pair _ rfl _ _ rfl w (by assumption) _ _ _ _ rfl (by assumption) (by omega) _ _ rfl ?_;intro avl capl wl ql pl))
         go_roundw
         case rel=>
          have hsu:=HSU.out;rw[HPV.out] at hsu;simp only at hsu;refine⟨k+1,HK0.out.2.2,rfl,pl,avl,capl,by rw[hsu,List.length_append,HMX.out.1];rfl,?_⟩;rw[hsu,pairCs_snoc,List.length_append,HMX.out.1,HMX.out.2];exact ql
         case measure=>have:=HK0.out.2.2;simp[intOf];omega
       |false=>
        rw[hdb] at HC1;refine wp_region_held_drew (S:=fun w'=>w'.cell? ⟨A.be,2,none⟩=some (.pointer (some ⟨A.ba,0,none⟩))) (by kernel_rfl) ?_ (fun hHeld=>?_)
        · (try dsimp only);exact e2
        refine zqt (i:=0) (v:=?_) rfl (by kernel_rfl) (fun _ _ _ h=>h) (Or.inl ⟨by rfl,?_⟩) hHeld ?_;rotate_left
        · (intro w hSw;(try dsimp only at hSw);go_simp;(try with_reducible rfl))
        (try simp only[zqa,zqb,zqc,Act.put,zqd,zqe,zqf])
        refine zqt (i:=1) (v:=?_) rfl (by kernel_rfl) (fun _ _ _ h=>h) (Or.inl ⟨by rfl,?_⟩) hHeld ?_;rotate_left
        · (intro w hSw;(try dsimp only at hSw);go_simp;(try with_reducible rfl))
        (try simp only[zqa,zqb,zqc,Act.put,zqd,zqe,zqf])
        refine zqt (i:=2) (v:=?_) rfl (by kernel_rfl) (fun _ _ _ h=>h) (Or.inl ⟨by rfl,?_⟩) hHeld ?_;rotate_left
        · (intro w hSw;(try dsimp only at hSw);go_simp;(try with_reducible rfl))
        (try simp only[zqa,zqb,zqc,Act.put,zqd,zqe,zqf])
        refine zqt (i:=3) (v:=?_) rfl (by kernel_rfl) (fun _ _ _ h=>h) (Or.inl ⟨by rfl,?_⟩) hHeld ?_;rotate_left
        · (intro w hSw;(try dsimp only at hSw);go_simp;(try with_reducible rfl))
        (try simp only[zqa,zqb,zqc,Act.put,zqd,zqe,zqf])
        refine zqt (i:=4) (v:=?_) rfl (by kernel_rfl) (fun _ _ _ h=>h) (Or.inl ⟨by rfl,?_⟩) hHeld ?_;rotate_left
        · (intro w hSw;(try dsimp only at hSw);go_simp;(try with_reducible rfl))
        (try simp only[zqa,zqb,zqc,Act.put,zqd,zqe,zqf])
        refine zqt (i:=5) (v:=?_) rfl (by kernel_rfl) (fun _ _ _ h=>h) (Or.inl ⟨by rfl,?_⟩) hHeld ?_;rotate_left
        · (intro w hSw;(try dsimp only at hSw);go_simp;(try with_reducible rfl))
        (try simp only[zqa,zqb,zqc,Act.put,zqd,zqe,zqf])
        refine wpAnyH_ready (rs:=[6]) (by kernel_rfl) (by simp) ?_;refine AllReadyH.cons (o:=_) rfl (fun K hK=>?_) ?_;rotate_left
        · exact AllReadyH.nil
        go_simp
        (first|(go_at_call 62;refine (HSL.out _ (by first|exact Or.inl rfl|exact Or.inr (Or.inl rfl)|exact Or.inr (Or.inr rfl)) _).mono ?_;rintro e w' ⟨rfl,rfl⟩)|(go_at_call 60;refine (HPK.out _ (by first|exact Or.inl rfl|exact Or.inr (Or.inl rfl)|exact Or.inr (Or.inr rfl)) _ (by assumption)).mono ?_;rintro e w3 ⟨rfl,hb3⟩)|(go_at_call 63;refine (HDN.out _ (by first|exact Or.inl rfl|exact Or.inr rfl) _ (by assumption)).mono ?_;rintro e w4 ⟨rfl,hb4⟩))
        refine hK.out _ _ ?_ (fun hHeld=>?_)
        · (try dsimp only);exact HKE.out _ (by assumption)
        clear hK K
        (try simp only[zqa,zqb,zqc,Act.put,zqd,zqe,zqf])
        refine wpAnyH_ready (rs:=[7]) (by kernel_rfl) (by simp) ?_;refine AllReadyH.cons (o:=_) rfl (fun K hK=>?_) ?_;rotate_left
        · exact AllReadyH.nil
        go_simp
        (first|(go_at_call 62;refine (HSL.out _ (by first|exact Or.inl rfl|exact Or.inr (Or.inl rfl)|exact Or.inr (Or.inr rfl)) _).mono ?_;rintro e w' ⟨rfl,rfl⟩)|(go_at_call 60;refine (HPK.out _ (by first|exact Or.inl rfl|exact Or.inr (Or.inl rfl)|exact Or.inr (Or.inr rfl)) _ (by assumption)).mono ?_;rintro e w3 ⟨rfl,hb3⟩)|(go_at_call 63;refine (HDN.out _ (by first|exact Or.inl rfl|exact Or.inr rfl) _ (by assumption)).mono ?_;rintro e w4 ⟨rfl,hb4⟩))
        refine hK.out _ _ ?_ (fun hHeld=>?_)
        · (try dsimp only);exact HKE.out _ (by assumption)
        clear hK K
        (try simp only[zqa,zqb,zqc,Act.put,zqd,zqe,zqf])
        refine wpAnyH_ready (rs:=[8]) (by kernel_rfl) (by simp) ?_;refine AllReadyH.cons (o:=_) rfl (fun K hK=>?_) ?_;rotate_left
        · exact AllReadyH.nil
        go_simp
        (first|(go_at_call 62;refine (HSL.out _ (by first|exact Or.inl rfl|exact Or.inr (Or.inl rfl)|exact Or.inr (Or.inr rfl)) _).mono ?_;rintro e w' ⟨rfl,rfl⟩)|(go_at_call 60;refine (HPK.out _ (by first|exact Or.inl rfl|exact Or.inr (Or.inl rfl)|exact Or.inr (Or.inr rfl)) _ (by assumption)).mono ?_;rintro e w3 ⟨rfl,hb3⟩)|(go_at_call 63;refine (HDN.out _ (by first|exact Or.inl rfl|exact Or.inr rfl) _ (by assumption)).mono ?_;rintro e w4 ⟨rfl,hb4⟩))
        refine hK.out _ _ ?_ (fun hHeld=>?_)
        · (try dsimp only);exact HKE.out _ (by assumption)
        clear hK K
        (try simp only[zqa,zqb,zqc,Act.put,zqd,zqe,zqf])
        refine zqt (i:=9) (v:=?_) rfl (by kernel_rfl) (fun _ _ _ h=>h) (Or.inl ⟨by rfl,?_⟩) hHeld ?_;rotate_left
        · (intro w hSw;(try dsimp only at hSw);go_simp;(try with_reducible rfl))
        (try simp only[zqa,zqb,zqc,Act.put,zqd,zqe,zqf])
        refine wpAnyH_take (i:=10) (v:=undef) rfl (by kernel_rfl) (by kernel_rfl) (by kernel_rfl) (fun _ _ _ h=>h) (Or.inr ⟨by rfl,rfl⟩) hHeld ?_
        (try simp only[zqa,zqb,zqc,Act.put,zqd,zqe,zqf])
        refine wpAnyH_take (i:=11) (v:=undef) rfl (by kernel_rfl) (by kernel_rfl) (by kernel_rfl) (fun _ _ _ h=>h) (Or.inr ⟨by rfl,rfl⟩) hHeld ?_
        (try simp only[zqa,zqb,zqc,Act.put,zqd,zqe,zqf])
        refine wpAnyH_take (i:=12) (v:=undef) rfl (by kernel_rfl) (by kernel_rfl) (by kernel_rfl) (fun _ _ _ h=>h) (Or.inr ⟨by rfl,rfl⟩) hHeld ?_
        (try simp only[zqa,zqb,zqc,Act.put,zqd,zqe,zqf])
        refine wpAnyH_take (i:=13) (v:=undef) rfl (by kernel_rfl) (by kernel_rfl) (by kernel_rfl) (fun _ _ _ h=>h) (Or.inr ⟨by rfl,rfl⟩) hHeld ?_
        (try simp only[zqa,zqb,zqc,Act.put,zqd,zqe,zqf])
        refine wpAnyH_take (i:=14) (v:=undef) rfl (by kernel_rfl) (by kernel_rfl) (by kernel_rfl) (fun _ _ _ h=>h) (Or.inr ⟨by rfl,rfl⟩) hHeld ?_
        (try simp only[zqa,zqb,zqc,Act.put,zqd,zqe,zqf])
        refine wpAnyH_take (i:=15) (v:=undef) rfl (by kernel_rfl) (by kernel_rfl) (by kernel_rfl) (fun _ _ _ h=>h) (Or.inr ⟨by rfl,rfl⟩) hHeld ?_
        (try simp only[zqa,zqb,zqc,Act.put,zqd,zqe,zqf])
        refine wpAnyH_take (i:=16) (v:=undef) rfl (by kernel_rfl) (by kernel_rfl) (by kernel_rfl) (fun _ _ _ h=>h) (Or.inr ⟨by rfl,rfl⟩) hHeld ?_
        (try simp only[zqa,zqb,zqc,Act.put,zqd,zqe,zqf])
        refine wpAnyH_take (i:=17) (v:=undef) rfl (by kernel_rfl) (by kernel_rfl) (by kernel_rfl) (fun _ _ _ h=>h) (Or.inr ⟨by rfl,rfl⟩) hHeld ?_
        (try simp only[zqa,zqb,zqc,Act.put,zqd,zqe,zqf])
        refine wpAnyH_take (i:=18) (v:=undef) rfl (by kernel_rfl) (by kernel_rfl) (by kernel_rfl) (fun _ _ _ h=>h) (Or.inr ⟨by rfl,rfl⟩) hHeld ?_
        (try simp only[zqa,zqb,zqc,Act.put,zqd,zqe,zqf])
        refine wpAnyH_take (i:=19) (v:=undef) rfl (by kernel_rfl) (by kernel_rfl) (by kernel_rfl) (fun _ _ _ h=>h) (Or.inr ⟨by rfl,rfl⟩) hHeld ?_
        (try simp only[zqa,zqb,zqc,Act.put,zqd,zqe,zqf])
        refine zqt (i:=20) (v:=?_) rfl (by kernel_rfl) (fun _ _ _ h=>h) (Or.inl ⟨by rfl,?_⟩) hHeld ?_;rotate_left
        · (intro w hSw;(try dsimp only at hSw);go_simp;(try with_reducible rfl))
        (try simp only[zqa,zqb,zqc,Act.put,zqd,zqe,zqf])
        refine wpAnyH_done (by kernel_rfl) ?_ _;clear HB0;go_wp2_with fail;have e2':=HKE.out _ hb4;obtain⟨_,_,hbw,how⟩:=HDT.out _ hb4;have HBD:=(hb4).drew
        go_region_held3 (fun w'=>w'.cell? ⟨A.be,2,none⟩=some (.pointer (some ⟨A.ba,0,none⟩)))
         (first|exact e2'|assumption|exact HKE.out _ (by assumption))
         (first|(go_at_call 62;refine (HSL.out _ (by first|exact Or.inl rfl|exact Or.inr (Or.inl rfl)|exact Or.inr (Or.inr rfl)) _).mono ?_;rintro e w' ⟨rfl,rfl⟩)|(go_at_call 60;refine (HPK.out _ (by first|exact Or.inl rfl|exact Or.inr (Or.inl rfl)|exact Or.inr (Or.inr rfl)) _ (by assumption)).mono ?_;rintro e w7 ⟨rfl,hb7⟩))
        obtain⟨_,_,hbw7,how7⟩:=HDT.out _ hb7;have HO7:=zH (zA hbw7 how7);clear hbw how hbw7 how7;go_wp2_with fail
        go_roundw
        case rel=>
         obtain⟨hc1,hp0⟩:=HC1.out;exact⟨xn,by rw[HP2.out],⟨n0,by simpa using hc1,by simpa using hp0⟩,HO7.out.1,rfl,HO7.out.2⟩
        case measure=>
         obtain⟨hc1,hp0⟩:=HC1.out;rw[HP2.out];exact Nat.lt_of_le_of_lt (leastF_le (P:=fun n=>chainOk σ n xn=true∧σ.pairAt n xn=PP) ⟨by simpa using hc1,by simpa using hp0⟩) (Nat.lt_of_lt_of_eq (Nat.lt_succ_self n0) HN0.out.symm)
  · obtain rfl:k=64:=by omega
    have HO:=zH (zA hown hb);clear hown hb hlt hk;go_wp2;go_ret;exact⟨av,cap,rfl,HO.out.1,HO.out.2⟩
structure EAt (b:Nat) (w0:World) (σ:St) (w:World):Prop where
 ex:∃ A:Book,A.be=b∧Live A σ w∧Grow (fun _=>none) w0 A.L w
def thn {α:Type} (x:Option α) (f:α→Bool):Bool:=match x with|some y=>f y|none=>false
theorem thn_ok {α:Type} {x:Option α} {f:α→Bool} (h:thn x f=true):∃ y,x=some y∧f y=true:=by
 cases x with
 |none=>cases h
 |some y=>exact⟨y,rfl,h⟩
theorem and_ok {a b:Bool} (h:(a&&b)=true):a=true∧b=true:=by simpa using h
theorem new_at (n l:Nat) (h1:1≤n) (h2:n≤256) (h3:1≤l) (h4:l≤1099511627776) (w:World):
 Calls Tryz.prog 26 #[.agg #[zi (n:Int),zu (l:Int)]] w fun e w'=>∃ b,e=.returned (.tuple #[.pointer (some ⟨b,0,none⟩),zi 0])∧EAt b w (new n l) w':=by
 refine (engineNew n l h1 h2 h3 h4 w).mono ?_;rintro e w' ⟨A,rfl,hL,g⟩;exact⟨A.be,rfl,A,rfl,hL,g⟩
inductive Kept where
 |obj (k:Nat) (o:Obj)
 |row (size:Nat) (v:Value) (xs:List Value)
def Kept.holds (L:Lab) (w:World):Kept→Prop
 |.obj k o=>Fix L w k o
 |.row size v xs=>FRow L w size v xs
theorem Kept.grow {L L':Lab} {w w':World} (g:Grow L w L' w'):∀ {k:Kept},k.holds L w→k.holds L' w'
 |.obj _ _,h=>Fix.grow h g
 |.row _ _ _,h=>FRow.grow h g
def Kepts (L:Lab) (w:World):List Kept→Prop
 |[]=>True
 |k::ks=>k.holds L w∧Kepts L w ks
theorem Kepts.grow {L L':Lab} {w w':World} (g:Grow L w L' w'):∀ {ks:List Kept},Kepts L w ks→Kepts L' w' ks
 |[],_=>trivial
 |_::_,⟨h,t⟩=>⟨Kept.grow g h,Kepts.grow g t⟩
structure EKt (b:Nat) (w0:World) (ks:List Kept) (σ:St) (w:World):Prop where
 ex:∃ A:Book,A.be=b∧Live A σ w∧Grow (fun _=>none) w0 A.L w∧Kepts A.L w ks
theorem EAt.kt {b:Nat} {w0 w:World} {σ:St} (h:EAt b w0 σ w):EKt b w0 [] σ w:=let ⟨A,e,l,g⟩:=h.ex;⟨A,e,l,g,trivial⟩
theorem EKt.tail {b:Nat} {w0 w:World} {σ:St} {k:Kept} {ks:List Kept} (h:EKt b w0 (k::ks) σ w):EKt b w0 ks σ w:=let ⟨A,e,l,g,_,t⟩:=h.ex;⟨A,e,l,g,t⟩
theorem EKt.obj {b:Nat} {w0 w:World} {σ:St} {ks:List Kept} {k:Nat} {o:Obj} (h:EKt b w0 ks σ w) (hm:.obj k o∈ks):w.heap[k]? =some o:=by
 obtain⟨A,_,_,_,t⟩:=h.ex
 induction ks with
 |nil=>cases hm
 |cons x ks ih=>
  rcases List.mem_cons.1 hm with rfl|hm
  · exact t.1.2
  · exact ih h.tail hm t.2
theorem EKt.row {b:Nat} {w0 w:World} {σ:St} {ks:List Kept} {size:Nat} {v:Value} {xs:List Value} (h:EKt b w0 ks σ w) (hm:.row size v xs∈ks):Ow.Row w 0 size v xs:=by
 obtain⟨A,_,_,_,t⟩:=h.ex
 induction ks with
 |nil=>cases hm
 |cons x ks ih=>
  rcases List.mem_cons.1 hm with rfl|hm
  · exact FRow.row t.1
  · exact ih h.tail hm t.2
theorem same_result (e v x y:Int) (a1 a2:Option Addr) (n c1 c2:Nat) (ps:List (Nat×Nat)) (w:World) (h1:Ow.Row w 0 2 (.slice a1 n c1) (pairCs ps)) (h2:Ow.Row w 0 2 (.slice a2 n c2) (pairCs ps)):
 Calls Tryz.prog 24 #[.agg #[zi e,zi v,.slice a1 n c1,zi x,zi y],.agg #[zi e,zi v,.slice a2 n c2,zi x,zi y]] w fun e w'=>e=.returned (.bool true)∧Below w.heap.size w w':=by
 have H1:=zH h1;have H2:=zH h2;clear h1 h2;go_enter Tryz.func24,Tryz.ntmps24;go_wp2_with (go_at_call 46;refine (same_pairs _ _ ps _ _ _ (Row.alloc' (Row.alloc' H1.out _) _) (Row.alloc' (Row.alloc' H2.out _) _)).mono ?_;rintro e w9 ⟨rfl,q⟩;have HB:=zH q;clear q);go_ret;refine⟨rfl,?_⟩;have hb:=HB.out;have h2:Below w.heap.size w ((w.alloc (.cells #[zi e,zi v,.slice a1 n c1,zi x,zi y] 42)).alloc (.cells #[zi e,zi v,.slice a2 n c2,zi x,zi y] 42)):=(((Below.refl _ _).alloc (Nat.le_refl _) _)).alloc (by simp) _;exact h2.trans (hb.mono h2.size)
theorem row_of_obj {w:World} {g:Nat} {T:TypeId} (xs:List Value) (n size:Nat) (h:w.heap[g]? =some (.cells xs.toArray T)) (hl:xs.length=n*size) (hn:n≤1000000):Ow.Row w 0 size (.slice (some ⟨g,0,none⟩) n n) xs:=by
 refine⟨_,n,n,rfl,hl,Nat.le_refl _,by unfold maxLen;omega,.inr ⟨g,0,rfl,Nat.zero_le _,lt_of h,fun j hj=>?_⟩⟩;rw[Nat.zero_add];have hj':j<xs.length:=by omega
 rw[List.getElem?_eq_getElem hj'];simp[World.cell?,h,hj']
theorem row_nil (w:World) (size:Nat):Ow.Row w 0 size (.slice none 0 0) []:=⟨none,0,0,rfl,by simp,Nat.le_refl _,by unfold maxLen;omega,.inl rfl⟩
structure Dl where
 id:Nat
 level:Nat
 state:Nat
 begin_:Nat
 end_:Nat
 ops:List (En.Op×Res)
 deriving Repr,DecidableEq,Inhabited
structure Wd where
 σ:St
 deals:List Dl
 ids:List Nat
 ops:List En.Op
 gone:List Nat
 deriving Repr,DecidableEq,Inhabited
structure WBook where
 M:Lab
 bw:Nat
 vd:Value
 vg:Value
 ds:List (Dl×Value)
 cs:Nat→List Value
def opC (o:En.Op):List Value:=[i64 o.kind,i64 o.key,i64 o.hi,i64 o.value]
def dealCs (d:Dl) (v:Value):List Value:=[i64 d.id,i64 d.level,i64 d.state,u64 d.begin_,u64 d.end_,v]
def dealsCs (l:List (Dl×Value)):List Value:=l.flatMap fun p=>dealCs p.1 p.2
def callsC (o:En.Op) (r:Res) (vp:Value):List Value:=opC o++[i64 r.e,i64 r.value,vp,i64 r.over,i64 r.reason]
def worldCs (be:Nat) (B:WBook) (W:Wd):List Value:=[ptr be,B.vd]++(W.ids.map i64++(W.ops.flatMap opC++[B.vg]))
def Cls (L:Lab) (w:World):List (En.Op×Res)→List Value→Prop
 |[],cs=>cs=[]
 |p::l,cs=>∃ vp cs',cs=callsC p.1 p.2 vp++cs'∧FRow L w 2 vp (pairCs p.2.pairs)∧Cls L w l cs'
theorem Cls.soft {L L':Lab} {w w':World} (g:Soft L w L' w'):∀ {l:List (En.Op×Res)} {cs:List Value},Cls L w l cs→Cls L' w' l cs
 |[],_,h=>h
 |_::_,_,⟨vp,cs',h1,h2,h3⟩=>⟨vp,cs',h1,h2.soft g,h3.soft g⟩
theorem Cls.snoc {L:Lab} {w:World}:∀ {l:List (En.Op×Res)} {cs:List Value} (_:Cls L w l cs) (o:En.Op) (r:Res) (vp:Value) (_:FRow L w 2 vp (pairCs r.pairs)),Cls L w (l++[(o,r)]) (cs++callsC o r vp)
 |[],_,h,o,r,vp,f=>⟨vp,[],by rw[show _=_ from h];simp,f,rfl⟩
 |_::_,_,⟨vp',cs',h1,h2,h3⟩,o,r,vp,f=>⟨vp',_,by rw[h1,List.append_assoc],h2,h3.snoc o r vp f⟩
def wmem (be:Nat) (B:WBook) (W:Wd):Role→Entry
 |.eng=>.obj B.bw (worldCs be B W) 35
 |.tale=>.own B.vd 54 6 B.ds.length (dealsCs B.ds)
 |.free=>.own B.vg 3 1 W.gone.length (W.gone.map i64)
 |.reads k=>match B.ds[k]? with|some p=>.own p.2 57 9 p.1.ops.length (B.cs k)|none=>.none
 |_=>.none
structure WRep (A:Book) (W:Wd) (B:WBook) (w:World):Prop where
 tie:∀ b r,B.M b=some r→A.L b=some .tmp
 mem:Holds B.M w (wmem A.be B W)
 cls:∀ k p,B.ds[k]? =some p→Cls A.L w p.1.ops (B.cs k)
 dl:B.ds.map (·.1)=W.deals
 i8:W.ids.length=8
 o8:W.ops.length=8
theorem WRep.soft {A A':Book} {W:Wd} {B:WBook} {w w':World} (h:WRep A W B w) (hbe:A'.be=A.be) (tie:∀ b r,B.M b=some r→A'.L b=some .tmp) (mem:Holds B.M w' (wmem A.be B W)) (s:Soft A.L w A'.L w') (σ':St):WRep A' {W with σ:=σ'} B w':=
 ⟨tie,by rw[hbe];exact mem,fun k p hk=>(h.cls k p hk).soft s,h.dl,h.i8,h.o8⟩
theorem WRep.lt {A:Book} {W:Wd} {B:WBook} {w:World} (h:WRep A W B w) {b:Nat} {r:Role} (hb:B.M b=some r):b<w.heap.size:=by
 rcases Nat.lt_or_ge b w.heap.size with h1|h1
 · exact h1
 · rw[h.mem.fresh b h1] at hb;cases hb
theorem WRep.grow {A A':Book} {W:Wd} {B:WBook} {w w':World} (h:WRep A W B w) (g:Grow A.L w A'.L w') (e:A'.be=A.be) (σ':St):WRep A' {W with σ:=σ'} B w':=
 h.soft e (fun b r hb=>(g.lab b (h.lt hb)).trans (h.tie b r hb)) (h.mem.grow (fun b r hb hr=>g.keep b hb (h.tie b r hr)) (fun _ _=>rfl) (fun b hb=>h.mem.fresh b (Nat.le_trans g.size hb))) g.soft σ'
theorem Kept.soft {L L':Lab} {w w':World} (g:Soft L w L' w'):∀ {k:Kept},k.holds L w→k.holds L' w'
 |.obj _ _,h=>Fix.soft h g
 |.row _ _ _,h=>FRow.soft h g
theorem Kepts.soft {L L':Lab} {w w':World} (g:Soft L w L' w'):∀ {ks:List Kept},Kepts L w ks→Kepts L' w' ks
 |[],_=>trivial
 |_::_,⟨h,t⟩=>⟨Kept.soft g h,Kepts.soft g t⟩
structure WK (B:WBook) (be:Nat) (w0:World) (ks:List Kept) (W:Wd) (w:World):Prop where
 ex:∃ A:Book,A.be=be∧Live A W.σ w∧WRep A W B w∧Grow (fun _=>none) w0 A.L w∧Kepts A.L w ks
section
variable {B:WBook} {be:Nat} {w0 w w':World} {ks:List Kept} {W:Wd}
theorem WK.toBelow (h:WK B be w0 ks W w):Below w0.heap.size w0 w:=let ⟨_,_,_,_,g,_⟩:=h.ex;g.toBelow
theorem WK.below (h:WK B be w0 ks W w) (hb:Below w.heap.size w w'):WK B be w0 ks W w':=
 let ⟨A,e,l,r,g,t⟩:=h.ex
 ⟨A,e,l.below hb,r.grow (Grow.below hb) rfl W.σ,g.trans (Grow.below hb),Kepts.grow (Grow.below hb) t⟩
theorem WK.alloc (h:WK B be w0 ks W w) (o:Obj):WK B be w0 (.obj w.heap.size o::ks) W (w.alloc o):=
 let ⟨A,e,l,r,g,t⟩:=h.ex
 ⟨A,e,l.alloc _,r.grow (Grow.alloc _ _ _) rfl W.σ,g.trans (Grow.alloc _ _ _),fix_next l.rep.mem.fresh _ rfl,Kepts.grow (Grow.alloc _ _ _) t⟩
theorem WK.drew (h:WK B be w0 ks W w):WK B be w0 ks W w.drew:=h.below (Below.refl _ _).drew
theorem WK.obj {k:Nat} {o:Obj} (h:WK B be w0 ks W w) (hm:.obj k o∈ks):w.heap[k]? =some o:=by
 obtain⟨A,e,l,r,g,t⟩:=h.ex;exact EKt.obj ⟨A,e,l,g,t⟩ hm
theorem WK.row {size:Nat} {v:Value} {xs:List Value} (h:WK B be w0 ks W w) (hm:.row size v xs∈ks):Ow.Row w 0 size v xs:=by
 obtain⟨A,e,l,r,g,t⟩:=h.ex;exact EKt.row ⟨A,e,l,g,t⟩ hm
theorem WK.keep {ks':List Kept} (h:WK B be w0 ks W w) (hs:∀ L,Kepts L w ks→Kepts L w ks'):WK B be w0 ks' W w:=
 let ⟨A,e,l,r,g,t⟩:=h.ex;⟨A,e,l,r,g,hs _ t⟩
theorem WK.tail {k:Kept} (h:WK B be w0 (k::ks) W w):WK B be w0 ks W w:=h.keep fun _ t=>t.2
theorem WK.drop (h:WK B be w0 ks W w):WK B be w0 [] W w:=h.keep fun _ _=>trivial
theorem WK.wcell (h:WK B be w0 ks W w) (i:Nat) {v:Value} (hv:(worldCs be B W)[i]? =some v):w.cell? ⟨B.bw,i,none⟩=some v∧w.frozen? ⟨B.bw,i,none⟩=false:=by
 obtain⟨A,rfl,l,r,g,t⟩:=h.ex;exact⟨r.mem.cell (r:=.eng) rfl i hv,r.mem.frozen (r:=.eng) rfl i⟩
theorem WK.i8 (h:WK B be w0 ks W w):W.ids.length=8:=let ⟨_,_,_,r,_⟩:=h.ex;r.i8
theorem WK.o8 (h:WK B be w0 ks W w):W.ops.length=8:=let ⟨_,_,_,r,_⟩:=h.ex;r.o8
theorem WK.lt (h:WK B be w0 ks W w):B.bw<w.heap.size:=by
 obtain⟨A,rfl,l,r,g,t⟩:=h.ex;exact r.lt (r.mem.all .eng).1
theorem WK.deals (h:WK B be w0 ks W w):w.ownsRow 0 54 6 B.vd B.ds.length (dealsCs B.ds):=let ⟨_,_,_,r,_⟩:=h.ex;(r.mem.all .tale).1
theorem WK.gone (h:WK B be w0 ks W w):w.ownsRow 0 3 1 B.vg W.gone.length (W.gone.map i64):=let ⟨_,_,_,r,_⟩:=h.ex;(r.mem.all .free).1
theorem WK.dl (h:WK B be w0 ks W w):B.ds.map (·.1)=W.deals:=let ⟨_,_,_,r,_⟩:=h.ex;r.dl
theorem WK.dlen (h:WK B be w0 ks W w):B.ds.length=W.deals.length:=by rw[←h.dl];simp
end
theorem worldCs_id {be:Nat} {B:WBook} {W:Wd} (h8:W.ids.length=8) {s:Nat} (hs:s<8):(worldCs be B W)[2+s]? =some (i64 (W.ids.getD s 0)):=by
 unfold worldCs;rw[List.getElem?_append_right (by simp),List.getElem?_append_left (by simp;omega)];simp[List.getD_eq_getElem?_getD,List.getElem?_eq_getElem (show s<W.ids.length by omega)]
theorem opC_len (l:List En.Op):(l.flatMap opC).length=l.length*4:=by
 induction l with
 |nil=>rfl
 |cons a l ih=>rw[List.flatMap_cons,List.length_append,ih,List.length_cons,show (opC a).length=4 from rfl];omega
theorem opC_get:∀ (l:List En.Op) (s j:Nat),j<4→(l.flatMap opC)[s*4+j]? =(l[s]?).bind fun o=>(opC o)[j]?
 |[],_,_,_=>rfl
 |o::l,0,j,hj=>by
  rw[List.flatMap_cons,Nat.zero_mul,Nat.zero_add,List.getElem?_append_left (by exact hj)];rfl
 |o::l,s+1,j,hj=>by
  rw[List.flatMap_cons,List.getElem?_append_right (by show 4≤_;omega),show (s+1)*4+j - (opC o).length=s*4+j by show _ - 4=_;omega,opC_get l s j hj];rfl
theorem worldCs_op {be:Nat} {B:WBook} {W:Wd} (h8:W.ids.length=8) (o8:W.ops.length=8) {s j:Nat} (hs:s<8) (hj:j<4):(worldCs be B W)[10+(s*4+j)]? =(opC (W.ops.getD s default))[j]? :=by
 unfold worldCs;have hl:(W.ops.flatMap opC).length=32:=by rw[opC_len,o8]
 rw[List.getElem?_append_right (by simp;omega),List.getElem?_append_right (by simp;omega),List.getElem?_append_left (by simp only[List.length_append,List.length_cons,List.length_nil,List.length_map,hl,h8];omega)];rw[show 10+(s*4+j) - [ptr be,B.vd].length - (W.ids.map i64).length=s*4+j by simp only[List.length_append,List.length_cons,List.length_nil,List.length_map,hl,h8];omega,opC_get _ _ _ hj];simp[List.getD_eq_getElem?_getD,List.getElem?_eq_getElem (show s<W.ops.length by omega)]
theorem worldCs_gone {be:Nat} {B:WBook} {W:Wd} (h8:W.ids.length=8) (o8:W.ops.length=8):(worldCs be B W)[42]? =some B.vg:=by
 unfold worldCs;have hl:(W.ops.flatMap opC).length=32:=by rw[opC_len,o8]
 rw[List.getElem?_append_right (by simp),List.getElem?_append_right (by simp;omega),List.getElem?_append_right (by simp only[List.length_append,List.length_cons,List.length_nil,List.length_map,hl,h8];omega),show 42 - [ptr be,B.vd].length - (W.ids.map i64).length - (W.ops.flatMap opC).length=0 by simp only[List.length_append,List.length_cons,List.length_nil,List.length_map,hl,h8]];rfl
theorem worldCs_setId {be:Nat} {B:WBook} {W:Wd} (h8:W.ids.length=8) {s:Nat} (hs:s<8) (id:Nat):(worldCs be B W).set (2+s) (i64 id)=worldCs be B {W with ids:=W.ids.set s id}:=by
 unfold worldCs;rw[List.set_append_right _ _ (by simp),List.set_append_left _ _ (by simp;omega)]
 congr 1
 rw[show 2+s - [ptr be,B.vd].length=s by simp];simp[List.map_set]
theorem worldCs_setGone {be:Nat} {B:WBook} {W:Wd} (h8:W.ids.length=8) (o8:W.ops.length=8) (v:Value):(worldCs be B W).set 42 v=worldCs be {B with vg:=v} W:=by
 unfold worldCs;have hl:(W.ops.flatMap opC).length=32:=by rw[opC_len,o8]
 rw[List.set_append_right _ _ (by simp),List.set_append_right _ _ (by simp;omega),List.set_append_right _ _ (by simp only[List.length_append,List.length_cons,List.length_nil,List.length_map,hl,h8];omega),show 42 - [ptr be,B.vd].length - (W.ids.map i64).length - (W.ops.flatMap opC).length=0 by simp only[List.length_append,List.length_cons,List.length_nil,List.length_map,hl,h8]];rfl
theorem opC_set:∀ (l:List En.Op) (s:Nat) (o:En.Op),s<l.length→((((l.flatMap opC).set (s*4) (i64 o.kind)).set (s*4+1) (i64 o.key)).set (s*4+2) (i64 o.hi)).set (s*4+3) (i64 o.value)=(l.set s o).flatMap opC
 |[],_,_,h=>by cases h
 |o'::l,0,o,_=>by simp[opC]
 |o'::l,s+1,o,h=>by
  have:=opC_set l s o (by simpa using h);rw[show (s+1)*4=s*4+4 by omega];simp only[List.flatMap_cons,opC,List.cons_append,List.nil_append,List.set_cons_succ,show s*4+4+1=s*4+1+4 by omega,show s*4+4+2=s*4+2+4 by omega,show s*4+4+3=s*4+3+4 by omega];rw[this]
theorem worldCs_setOp {be:Nat} {B:WBook} {W:Wd} (h8:W.ids.length=8) (o8:W.ops.length=8) {s:Nat} (hs:s<8) (o:En.Op):((((worldCs be B W).set (10+s*4) (i64 o.kind)).set (10+s*4+1) (i64 o.key)).set (10+s*4+2) (i64 o.hi)).set (10+s*4+3) (i64 o.value)=worldCs be B {W with ops:=W.ops.set s o}:=by
 unfold worldCs;have hl:(W.ops.flatMap opC).length=32:=by rw[opC_len,o8]
 have st:∀ (l:List Value) (i:Nat) (v:Value),l.length=32→i<32→([ptr be,B.vd]++(W.ids.map i64++(l++[B.vg]))).set (10+i) v=[ptr be,B.vd]++(W.ids.map i64++(l.set i v++[B.vg])):=by
  intro l i v hl hi;rw[List.set_append_right _ _ (by simp;omega),List.set_append_right _ _ (by simp;omega),List.set_append_left _ _ (by simp;omega)];rw[show 10+i - [ptr be,B.vd].length - (W.ids.map i64).length=i by simp only[List.length_cons,List.length_nil,List.length_map,h8];omega]
 rw[st _ _ _ hl (by omega),show 10+s*4+1=10+(s*4+1) by omega,st _ _ _ (by simp[hl]) (by omega),show 10+s*4+2=10+(s*4+2) by omega,st _ _ _ (by simp[hl]) (by omega),show 10+s*4+3=10+(s*4+3) by omega,st _ _ _ (by simp[hl]) (by omega),opC_set _ _ _ (by omega)]
theorem wmem_eng {be:Nat} {B B':WBook} {W W':Wd} (hb:B'.bw=B.bw) (hd:B'.vd=B.vd) (hg:B'.vg=B.vg) (hds:B'.ds=B.ds) (hcs:B'.cs=B.cs) (hgo:W'.gone=W.gone) (q:Role) (hq:q≠.eng):wmem be B' W' q=wmem be B W q:=by
 cases q<;>first|(exact absurd rfl hq)|(simp only[wmem,hb,hd,hg,hds,hcs,hgo])
section
variable {B:WBook} {be:Nat} {w0 w w':World} {ks:List Kept} {W:Wd}
theorem WK.put (h:WK B be w0 ks W w) (hb:But B.bw w w') (B':WBook) (W':Wd) (hM:B'.M=B.M) (hbw:B'.bw=B.bw) (hvd:B'.vd=B.vd) (hvg:B'.vg=B.vg) (hds:B'.ds=B.ds) (hcs:B'.cs=B.cs) (hσ:W'.σ=W.σ) (hdl:W'.deals=W.deals) (hgo:W'.gone=W.gone) (h8:W'.ids.length=8) (o8:W'.ops.length=8)
 (hc:w'.heap[B.bw]? =some (.cells (worldCs be B' W').toArray 35)):WK B' be w0 ks W' w':=by
 obtain⟨A,rfl,l,r,g,t⟩:=h.ex;have hl:A.L B.bw=some .tmp:=r.tie _ _ (r.mem.all .eng).1;have hm:B.M B.bw=some .eng:=(r.mem.all .eng).1;refine⟨A,rfl,by rw[hσ];exact l.but hl hb,⟨by rw[hM];exact r.tie,?_,?_,by rw[hds,hdl];exact r.dl,h8,o8⟩,g.but ?_ hb,Kepts.soft (hb.soft hl) t⟩
 · rw[hM]
   refine r.mem.upd .eng ?_ (fun q hq=>wmem_eng hbw hvd hvg hds hcs hgo q hq) (fun b q hb' hl' hq=>hb.block b ?_) (fun _ _=>rfl) (fun b hb'=>r.mem.fresh b (by rw[←hb.size];exact hb'))
   · show Entry.Holds B.M w' .eng (.obj B'.bw _ _)
     rw[hbw];exact⟨hm,hc⟩
   · rintro rfl
     rw[hm] at hl';exact hq (Option.some.inj hl').symm
 · rw[hds,hcs]
   exact fun k p hk=>(r.cls k p hk).soft (hb.soft hl)
 · rcases Nat.lt_or_ge B.bw w0.heap.size with h1|h1
   · rw[g.lab _ h1] at hl;cases hl
   · exact h1
theorem WK.putId (h:WK B be w0 ks W w) {s:Nat} (hs:s<8) (id:Nat):WK B be w0 ks {W with ids:=W.ids.set s id} (w.setCell ⟨B.bw,2+s,none⟩ (i64 id)):=by
 refine h.put (But.setCell w ⟨B.bw,2+s,none⟩ _) B _ rfl rfl rfl rfl rfl rfl rfl rfl rfl (by simp[h.i8]) h.o8 ?_;obtain⟨A,rfl,l,r,g,t⟩:=h.ex;rw[heap_setCell_same (r.mem.all .eng).2,List.setIfInBounds_toArray,worldCs_setId r.i8 hs]
theorem WK.putOp (h:WK B be w0 ks W w) {s:Nat} (hs:s<8) (o:En.Op):WK B be w0 ks {W with ops:=W.ops.set s o} (w.setCells B.bw (10+s*4) (opC o)):=by
 refine h.put (But.setCells _ _ _ _) B _ rfl rfl rfl rfl rfl rfl rfl rfl rfl h.i8 (by simp[h.o8]) ?_;obtain⟨A,rfl,l,r,g,t⟩:=h.ex;have h1:=heap_setCell_same (r.mem.all .eng).2 (10+s*4) (i64 o.kind);have h2:=heap_setCell_same h1 (10+s*4+1) (i64 o.key);have h3:=heap_setCell_same h2 (10+s*4+1+1) (i64 o.hi);have h4:=heap_setCell_same h3 (10+s*4+1+1+1) (i64 o.value);refine Eq.trans h4 ?_;rw[List.setIfInBounds_toArray,List.setIfInBounds_toArray,List.setIfInBounds_toArray,List.setIfInBounds_toArray,worldCs_setOp r.i8 r.o8 hs]
end
section
variable {B:WBook} {be:Nat} {w0 w w':World} {ks:List Kept} {W:Wd}
theorem WK.of {A A':Book} {σ':St} (l:Live A W.σ w) (r:WRep A W B w) (g:Grow (fun _=>none) w0 A.L w) (t:Kepts A.L w ks) (hL':Live A' σ' w') (g':Grow A.L w A'.L w') (e':A'.be=A.be):WK B A.be w0 ks {W with σ:=σ'} w':=
 ⟨A',e',hL',r.grow g' e' σ',g.trans g',Kepts.grow g' t⟩
theorem begin_wk (h:WK B be w0 ks W w) {s level id:Nat} {σ1:St} (hs:s<8) (hr:beginOk W.σ s level=some (σ1,id)):
 Calls Tryz.prog 41 #[.pointer (some ⟨be,0,none⟩),zi (s:Int),zi (level:Int)] w fun e w'=>e=.returned (.tuple #[zi (id:Int),zi 0])∧WK B be w0 ks {W with σ:=σ1} w':=by
 obtain⟨A,rfl,l,r,g,t⟩:=h.ex;refine (begin_to hs hr A w l).mono ?_;rintro e w' ⟨A',rfl,hL',g',e'⟩;exact⟨rfl,WK.of l r g t hL' g' e'⟩
theorem issue_wk (h:WK B be w0 ks W w) {s:Nat} {o:En.Op} {σ1:St} (hs:s<8) (hr:issueOk W.σ s o=some σ1):
 Calls Tryz.prog 17 #[.pointer (some ⟨be,0,none⟩),zi (s:Int),.agg #[zi (o.kind:Int),zi (o.key:Int),zi (o.hi:Int),zi (o.value:Int)]] w fun e w'=>e=.returned (zi 0)∧WK B be w0 ks {W with σ:=σ1} w':=by
 obtain⟨A,rfl,l,r,g,t⟩:=h.ex;refine (issue_to hs hr A w l).mono ?_;rintro e w' ⟨A',rfl,hL',g',e'⟩;exact⟨rfl,WK.of l r g t hL' g' e'⟩
theorem step_wk (h:WK B be w0 ks W w) {s kd:Nat} {r:Res} {σ1:St} (hs:s<8) (hr:oneStep W.σ s=some (σ1,kd,r)):
 Calls Tryz.prog 19 #[.pointer (some ⟨be,0,none⟩),zi (s:Int)] w (fun e w'=>∃ va vn vc,e=.returned (.tuple #[.agg #[zi (kd:Int),zi (r.e:Int),zi (r.value:Int),.slice va vn vc,zi (r.over:Int),zi (r.reason:Int)],zi 0])∧vn=r.pairs.length∧WK B be w0 (.row 2 (.slice va vn vc) (pairCs r.pairs)::ks) {W with σ:=σ1} w'):=by
 obtain⟨A,rfl,l,r',g,t⟩:=h.ex;refine (step_calls l hs hr).mono ?_;rintro e w' ⟨A',vp,rfl,hf,hL',g',e'⟩;obtain⟨va,vn,vc,rfl⟩:=frow_form hf;have hvn:vn=r.pairs.length:=by
  obtain⟨a,n,c,e0,h1,_⟩:=hf;simp only[Value.slice.injEq] at e0;rw[pairCs_len] at h1;omega
 exact⟨va,vn,vc,rfl,hvn,A',e',hL',r'.grow g' e' σ1,g.trans g',hf,Kepts.grow g' t⟩
theorem status_wk (h:WK B be w0 ks W w) (s:Nat) (hs:s<8):
 Calls Tryz.prog 18 #[.pointer (some ⟨be,0,none⟩),zi (s:Int)] w fun e w'=>e=.returned (.agg (statusCs (W.σ.status s)))∧WK B be w0 ks W w':=by
 obtain⟨A,rfl,l,r,g,t⟩:=h.ex;refine (status_any l s hs).mono ?_;rintro e w' ⟨rfl,hb⟩;exact⟨rfl,WK.below ⟨A,rfl,l,r,g,t⟩ hb⟩
theorem now_wk (h:WK B be w0 ks W w) (hx:W.σ.word 0<18446744073709551616):
 Calls Tryz.prog 27 #[.pointer (some ⟨be,0,none⟩)] w fun e w'=>e=.returned (zu (W.σ.now:Int))∧WK B be w0 ks W w':=by
 obtain⟨A,rfl,l,r,g,t⟩:=h.ex;refine (now_any l.rep hx).mono ?_;rintro e w' ⟨rfl,hb⟩;exact⟨rfl,WK.below ⟨A,rfl,l,r,g,t⟩ hb⟩
theorem looks_wk (h:WK B be w0 ks W w):
 Calls Tryz.prog 29 #[.pointer (some ⟨be,0,none⟩)] w fun e w'=>e=.returned (zi (W.σ.looks:Int))∧w=w':=by
 obtain⟨A,rfl,l,r,g,t⟩:=h.ex;exact looks_any l.rep
theorem live_wk (h:WK B be w0 ks W w):
 Calls Tryz.prog 30 #[.pointer (some ⟨be,0,none⟩)] w fun e w'=>∃ av cap,e=.returned (.slice av W.σ.live.length cap)∧WK B be w0 ks W w':=by
 obtain⟨A,rfl,l,r,g,t⟩:=h.ex;refine (liveRow_any l.rep).mono ?_;rintro e w' ⟨av,cap,rfl,_,hb⟩;exact⟨av,cap,rfl,WK.below ⟨A,rfl,l,r,g,t⟩ hb⟩
theorem pairs_wk (h:WK B be w0 ks W w) (hok:okPairs W.σ=true):
 Calls Tryz.prog 32 #[.pointer (some ⟨be,0,none⟩)] w fun e w'=>∃ av cap,e=.returned (.slice av W.σ.pairs.length cap)∧Ow.Row w' 0 2 (.slice av W.σ.pairs.length cap) (pairCs W.σ.pairs)∧WK B be w0 ks W w':=by
 obtain⟨A,rfl,l,r,g,t⟩:=h.ex;refine (pairs_any l.rep hok).mono ?_;rintro e w' ⟨av,cap,rfl,ho,hb⟩;obtain⟨a,n,c,k1,k2,k3,k4,k5⟩:=own_row ho;refine⟨av,cap,rfl,⟨a,n,c,k1,k2,k3,k4,?_⟩,WK.below ⟨A,rfl,l,r,g,t⟩ hb⟩
 rcases k5 with k5|⟨g',off,e1,e2,e3⟩
 · exact .inl k5
 · exact .inr ⟨g',off,e1,Nat.zero_le _,e3⟩
end
end Go.Proofs.YtbefcdjcefmicaaGreat.Em
