import Derived.Test.YtbefcdjcefmicaaGreatKq32
namespace Go.Proofs.YtbefcdjcefmicaaGreat.Em
open Go.ChangeShapes Go.WideShapes Go.ChangeAt Go.RowKit En
set_option linter.unusedVariables false
set_option linter.unusedSimpArgs false
set_option maxRecDepth 100000
set_option maxHeartbeats 1600000
def txnOf (id level bg:Nat):Txn:={id:=id,level:=level,begin_:=bg,end_:=0,ops:=0,keys:=[],cells:=[],reads:=[],bonds:=[],over:=false}
theorem help_count (σ:St) (x:Nat):(σ.help x).count=σ.count+1:=by unfold St.help St.cas;split<;>rfl
theorem help_place (σ:St) (x id:Nat):(σ.help x).place id=σ.place id:=by unfold St.help St.cas;split<;>rfl
theorem help_tale (σ:St) (x:Nat):(σ.help x).tale=σ.tale:=by unfold St.help St.cas;split<;>rfl
theorem cas_count (σ:St) (i a b:Nat):(σ.cas i a b).count=σ.count+1:=by unfold St.cas;split<;>rfl
theorem cas_place (σ:St) (i a b id:Nat):(σ.cas i a b).place id=σ.place id:=by unfold St.cas;split<;>rfl
theorem cas_txns (σ:St) (i a b:Nat):(σ.cas i a b).txns=σ.txns:=by unfold St.cas;split<;>rfl
theorem cas_calls (σ:St) (i a b:Nat):(σ.cas i a b).calls=σ.calls:=by unfold St.cas;split<;>rfl
theorem cas_tale (σ:St) (i a b:Nat):(σ.cas i a b).tale=σ.tale:=by unfold St.cas;split<;>rfl
def Begun (A:Book) (w:World) (σ':St) (id:Nat):Ending→World→Prop:=fun e w'=>∃ A',e=.returned (.tuple #[zi (id:Int),zi 0])∧Live A' σ' w'∧Grow A.L w A'.L w'∧A'.be=A.be
theorem begin_new {A:Book} {σ:St} {w:World} (hL:Live A σ w) (s:Nat) (hs:s<8) (level:Nat) (hl1:1≤level) (hl2:level≤3) (hn:σ.txns.getD s none=none) (hcn:σ.calls.getD s none=none) (hmd:σ.made<2000) (hx:σ.word 0<18446744073709551616) (htm:timeOf (σ.word 0)<281474976710000) (hlim:timeOf (σ.word 0)<σ.limit) (hlo:lastOf (σ.word 0)=0) (hcnt:σ.count<3000000000000000000) (htl:σ.tale.length<1000000):
 Calls Tryz.prog 41 #[.pointer (some ⟨A.be,0,none⟩),zi (s:Int),zi (level:Int)] w (Begun A w (((((({σ.tick with made:=σ.made+1}:St).cas 0 (σ.word 0) (clockW (timeOf (σ.word 0)+1) 0)).put (σ.place (σ.made+1)) (pack 1 0)).put (1+s) (timeOf (σ.word 0)+1)).setT s (txnOf (σ.made+1) level (timeOf (σ.word 0)+1))).event {kind:=1,t:=σ.made+1,n:=timeOf (σ.word 0)+1,op:=⟨0,0,0,level⟩}) (σ.made+1)):=by
 have hR:=hL.rep;generalize hσ4:({σ.tick with made:=σ.made+1}:St).cas 0 (σ.word 0) (clockW (timeOf (σ.word 0)+1) 0)=σ4;have HS4:Hid (({σ.tick with made:=σ.made+1}:St).cas 0 (σ.word 0) (clockW (timeOf (σ.word 0)+1) 0)=σ4∧σ4.place (σ.made+1)=σ.place (σ.made+1)∧σ4.txns=σ.txns∧σ4.calls=σ.calls∧σ4.tale=σ.tale∧σ4.count<3000000000000000010):=by
  refine⟨hσ4,?_,?_,?_,?_,?_⟩<;>rw[←hσ4]
  · rw[cas_place];rfl
  · rw[cas_txns];rfl
  · rw[cas_calls];rfl
  · rw[cas_tale];rfl
  · rw[cas_count];show σ.count+1+1<_;omega
 clear hσ4;have b1:(s:Int)<8:=by omega
 have b0:(0:Int)≤(s:Int):=by omega
 have hsok:=zH (sessionOk s hs);have hlev:=zH (levelOk level hl1 hl2);have e2:w.cell? ⟨A.be,2,none⟩=some (.pointer (some ⟨A.ba,0,none⟩)):=hR.eng 2 rfl;have v5:=hR.eng (5+s) (engCs_txn A σ hs);rw[show A.tp σ s=.pointer none by unfold Book.tp;rw[hn]] at v5;have v21:w.cell? ⟨A.be,21,none⟩=some (zi (σ.made:Int)):=hR.eng 21 rfl;have d1:decide ((2000:Int)≤(σ.made:Int))=false:=by simp;omega
 have d2:((2000:Int)≤(σ.made:Int))=False:=by simp;omega
 have d3:(2000≤σ.made)=False:=by simp;omega
 have l1:decide ((σ.limit:Int)≤(timeOf (σ.word 0):Int))=false:=by simp;omega
 have l2:((σ.limit:Int)≤(timeOf (σ.word 0):Int))=False:=by simp;omega
 have l3:(σ.limit≤timeOf (σ.word 0))=False:=by simp;omega
 have k1:decide ((0:Int)<(lastOf (σ.word 0):Int))=false:=by simp;omega
 have k2:((0:Int)<(lastOf (σ.word 0):Int))=False:=by simp;omega
 have k3:(0<lastOf (σ.word 0))=False:=by simp;omega
 have n1:IntKind.i64.wrap ((σ.made:Int)+1)=(σ.made:Int)+1:=by rw[IntKind.wrap_i64];omega
 have n2:IntKind.u64.wrap ((timeOf (σ.word 0):Int)+1)=(timeOf (σ.word 0):Int)+1:=by rw[IntKind.wrap_u64];omega
 have n3:IntKind.i64.wrap (1+(s:Int))=1+(s:Int):=by rw[IntKind.wrap_i64];omega
 have HLo:=zH (load_i hR 0 0 rfl (by rw[hR.nw];omega) (by omega));have HDr:=zH (fun w'=>drawn_any (σ.word 0) hx w');have H1:Hid (∀ w1,Rep A σ.tick w1→Grow A.L w A.L w1→w1.cell? ⟨A.be,1,none⟩=some (zu (σ.limit:Int))∧w1.cell? ⟨A.be,21,none⟩=some (zi (σ.made:Int))∧w1.frozen? ⟨A.be,21,none⟩=false):=
  fun w1 r g=>⟨r.eng 1 rfl,r.eng 21 rfl,r.engF 21⟩
 have hmm:∀ w,(Instr.makeMap 114 none).run Tryz.prog w=.ok (.map (some w.heap.size)) (w.alloc (.map #[] 0)):=fun w=>rfl
 have HL0:=zH (zA hL (zA hs (zA hn (zA hcn (zA hmd (zA htm (zA hcnt (zA htl hx))))))));clear hL hs hl1 hl2 hn hcn hmd hx htm hlim hlo hcnt htl;clear hR;go_enter Tryz.func41,Tryz.ntmps41;go_wp2_with (first|(go_at_call 48;refine (hsok.out _).mono ?_;rintro e w' ⟨rfl,rfl⟩)|(go_at_call 72;refine (hlev.out _).mono ?_;rintro e w' ⟨rfl,rfl⟩)|(go_at_call 73;refine HLo.out.mono ?_;rintro e w1 ⟨rfl,q1,q2⟩;obtain⟨y1,y2,y3⟩:=H1.out w1 q1 q2;have HQ1:=zH (zA q1 q2);clear q1 q2)|(go_at_call 59;refine (HDr.out _).mono ?_;rintro e w' ⟨rfl,rfl⟩));obtain⟨hL,hs,hn,hcn,hmd,htm,hcnt,htl,hx⟩:=HL0.out;obtain⟨r1,g1⟩:=HQ1.out;obtain⟨rm,gm⟩:=r1.madeSet (σ.made+1);rw[show ((σ.made+1:Nat):Int)=(σ.made:Int)+1 from rfl] at rm gm;have hz3:(w1.setCell ⟨A.be,21,none⟩ (zi ((σ.made:Int)+1))).heap.size=w1.heap.size:=by simp[World.setCell]
 generalize hw3:w1.setCell ⟨A.be,21,none⟩ (zi ((σ.made:Int)+1))=w3 at*;generalize hw4:(w3.alloc (.map #[] 0)).alloc _=w4;have r4:Rep A ({σ.tick with made:=σ.made+1}:St) w4:=by rw[←hw4];exact (rm.alloc _).alloc _
 have g34:Grow A.L w3 A.L w4:=by rw[←hw4];exact (Grow.alloc _ _ _).trans (Grow.alloc _ _ _)
 have g4:Grow A.L w A.L w4:=(g1.trans gm).trans g34;have hm4:w4.heap[w1.heap.size]? =some (.map #[] 0):=by rw[←hw4,←hz3];exact (Below.heap_alloc _ _ _ (by simp)).trans (heap_alloc_new w3 _)
 have hb4:w4.heap[w1.heap.size+1]? =some (.cells #[zi ((σ.made:Int)+1),zi (level:Int),zi (s:Int),zu ((timeOf (σ.word 0):Int)+1),zu 0,zi 0,.slice none 0 0,.map (some w1.heap.size),.slice none 0 0,.slice none 0 0,.int .u32 0,.int .i32 0,.int .u32 0,.bool false] 129):=by rw[←hw4,←hz3];exact heap_alloc2_new w3 _ _
 have hmL:A.L w1.heap.size=none:=by rw[←hz3];exact rm.mem.fresh _ (Nat.le_refl _)
 have hbL:A.L (w1.heap.size+1)=none:=by rw[←hz3];exact rm.mem.fresh _ (by omega)
 have hle:w.heap.size≤w1.heap.size:=g1.size;have F4:Fix A.L w4 (w1.heap.size+1) (.cells #[zi ((σ.made:Int)+1),zi (level:Int),zi (s:Int),zu ((timeOf (σ.word 0):Int)+1),zu 0,zi 0,.slice none 0 0,.map (some w1.heap.size),.slice none 0 0,.slice none 0 0,.int .u32 0,.int .i32 0,.int .u32 0,.bool false] 129):=⟨hbL,hb4⟩
 have M4:Fix A.L w4 w1.heap.size (.map #[] 0):=⟨hmL,hm4⟩
 have a2:=r4.eng 2 (v:=.pointer (some ⟨A.ba,0,none⟩)) rfl;have a3:=F4.cell 3 (v:=zu ((timeOf (σ.word 0):Int)+1)) rfl;have hk:Calls Tryz.prog 76 #[zu ((timeOf (σ.word 0):Int)+1),zi 0] w4.drew fun e w'=>e=.returned (zu ((clockW (timeOf (σ.word 0)+1) 0:Nat):Int))∧w'=w4.drew:=flip (clock_any (timeOf (σ.word 0)+1) 0 (by omega) (by omega) w4.drew)
 have HC:=zH hk;have HCA:=zH (cas_i r4.drew 0 (σ.word 0) (clockW (timeOf (σ.word 0)+1) 0) 0 rfl (by rw[r4.nw];omega) (by show σ.count+1<_;omega));have H4:=zH (zA g4 (zA F4 (zA M4 (zA hmL (zA hbL hle)))));clear hL hs hn hcn hmd htm hcnt htl hx r1 g1 rm gm hz3 hw3 hw4 r4 g34 g4 hm4 hb4 hmL hbL hle F4 M4 hk;refine wp_region_still_tail 10 (by kernel_rfl) (by kernel_rfl) ?_;simp only[List.take_succ_cons,List.take_zero,List.drop_succ_cons,List.drop_zero]
 repeat still_step
 still_call HC.out
 refine wpStill_nil ?_;change wpList _ _ _ _ _ w4.drew;have HG4:Hid (Grow A.L w4 A.L w4.drew):=Grow.drew _ _;generalize w4.drew=wd4 at*;go_wp2_with (go_at_call 75;refine HCA.out.mono ?_;rintro e w5 ⟨rfl,q1,q2⟩);obtain⟨g4,F4,M4,hmL,hbL,hle⟩:=H4.out;obtain⟨hL,hs,hn,hcn,hmd,htm,hcnt,htl,hx⟩:=HL0.out;rw[HS4.out.1] at q1;obtain⟨-,p4,tx4,cl4,tl4,ct4⟩:=HS4.out;have g45:=HG4.out.trans q2;have F5:=F4.grow g45;have M5:=M4.grow g45;have g5:=g4.trans g45;have a2:=q1.eng 2 (v:=.pointer (some ⟨A.ba,0,none⟩)) rfl;have a0:=F5.cell 0 (v:=zi ((σ.made:Int)+1)) rfl;have hpl:Calls Tryz.prog 78 #[.pointer (some ⟨A.be,0,none⟩),zi ((σ.made:Int)+1)] w5.drew fun e w'=>e=.returned (zi ((σ.place (σ.made+1):Nat):Int))∧w'=w5.drew:=by
  have h:=place_still q1.drew (σ.made+1) (by omega);rw[p4] at h;exact h
 have HPL:=zH hpl;have HPK:=zH (pack_still 1 0 1 0 rfl rfl (by omega) (by omega) w5.drew);have HST:=zH (store_any q1.drew (σ.place (σ.made+1)) (pack 1 0) (by rw[q1.nw];have:=q1.sl;have:=congrArg (fun x=>x) p4;unfold St.place at p4 ⊢;omega) (by omega));have H5:=zH (zA g5 (zA F5 (zA M5 q1)));clear hL hs hn hcn hmd htm hcnt htl hx g4 F4 M4 hmL hbL hle g45 F5 M5 g5 q1 q2 hpl p4 tx4 cl4 tl4 ct4;refine wp_region_still_tail 11 (by kernel_rfl) (by kernel_rfl) ?_;simp only[List.take_succ_cons,List.take_zero,List.drop_succ_cons,List.drop_zero]
 repeat still_step
 still_call HPL.out
 still_call HPK.out
 refine wpStill_nil ?_;change wpList _ _ _ _ _ w5.drew;have HG6:Hid (Grow A.L w5 A.L w5.drew):=Grow.drew _ _;generalize w5.drew=wd5 at*;go_wp2_with (go_at_call 77;refine HST.out.mono ?_;rintro e w6 ⟨rfl,q1,q2⟩);obtain⟨g5,F5,M5,_⟩:=H5.out;obtain⟨hL,hs,hn,hcn,hmd,htm,hcnt,htl,hx⟩:=HL0.out;have ct4:=HS4.out.2.2.2.2.2;have g56:=HG6.out.trans q2;have F6:=F5.grow g56;have M6:=M5.grow g56;have g6:=g5.trans g56;have a2:=q1.eng 2 (v:=.pointer (some ⟨A.ba,0,none⟩)) rfl;have a3:=F6.cell 3 (v:=zu ((timeOf (σ.word 0):Int)+1)) rfl;have HSU:=zH (store_i q1.drew (1+s) (timeOf (σ.word 0)+1) (1+(s:Int)) ((timeOf (σ.word 0):Int)+1) (by omega) (by omega) (by rw[q1.nw];omega) (by show σ4.count+1<_;omega));have H6:=zH (zA g6 (zA F6 M6));have HV5:Hid (∀ w7,Rep A ((σ4.put (σ.place (σ.made+1)) (pack 1 0)).put (1+s) (timeOf (σ.word 0)+1)) w7→w7.cell? ⟨A.be,5+s,none⟩=some (.pointer none)∧w7.frozen? ⟨A.be,5+s,none⟩=false):=by
  intro w7 r;have h:=r.eng (5+s) (engCs_txn A _ hs);rw[show A.tp ((σ4.put (σ.place (σ.made+1)) (pack 1 0)).put (1+s) (timeOf (σ.word 0)+1)) s=.pointer none by unfold Book.tp;rw[show ((σ4.put (σ.place (σ.made+1)) (pack 1 0)).put (1+s) (timeOf (σ.word 0)+1)).txns.getD s none=none by show σ4.txns.getD s none=none;rw[HS4.out.2.2.1];exact hn]] at h;exact⟨h,r.engF _⟩
 clear hL hs hn hcn hmd htm hcnt htl hx g5 F5 M5 g56 F6 M6 g6 q1 q2 ct4;refine wp_region_still_tail 10 (by kernel_rfl) (by kernel_rfl) ?_;simp only[List.take_succ_cons,List.take_zero,List.drop_succ_cons,List.drop_zero]
 repeat still_step
 refine wpStill_nil ?_;change wpList _ _ _ _ _ w6.drew;have HG7:Hid (Grow A.L w6 A.L w6.drew):=Grow.drew _ _;generalize w6.drew=wd6 at*;go_wp2_with (go_at_call 77;refine HSU.out.mono ?_;rintro e w7 ⟨rfl,q1,q2⟩;obtain⟨m5,z5⟩:=HV5.out w7 q1;have H7:=zH (zA q1 q2);clear q1 q2);obtain⟨g6,F6,M6⟩:=H6.out;obtain⟨q1,q2⟩:=H7.out;obtain⟨_,_,_,hmL,hbL,hle⟩:=H4.out;obtain⟨hL,hs,hn,hcn,hmd,htm,hcnt,htl,hx⟩:=HL0.out;obtain⟨-,p4,tx4,cl4,tl4,ct4⟩:=HS4.out;have g67:=HG7.out.trans q2;have F7:=F6.grow g67;have M7:=M6.grow g67;have g7:=g6.trans g67;have hn6:((σ4.put (σ.place (σ.made+1)) (pack 1 0)).put (1+s) (timeOf (σ.word 0)+1)).txns.getD s none=none:=by show σ4.txns.getD s none=none;rw[tx4];exact hn
 have hblk:w7.heap[w1.heap.size+1]? =some (.cells (txnCs (A.newTxn s (w1.heap.size+1) w1.heap.size) s (txnOf (σ.made+1) level (timeOf (σ.word 0)+1))).toArray 129):=by
  rw[show (txnCs (A.newTxn s (w1.heap.size+1) w1.heap.size) s (txnOf (σ.made+1) level (timeOf (σ.word 0)+1))).toArray=#[zi ((σ.made:Int)+1),zi (level:Int),zi (s:Int),zu ((timeOf (σ.word 0):Int)+1),zu 0,zi 0,.slice none 0 0,.map (some w1.heap.size),.slice none 0 0,.slice none 0 0,.int .u32 0,.int .i32 0,.int .u32 0,.bool false] by simp[txnCs,Book.newTxn,upF,onceCs,txnOf]];exact F7.2
 obtain⟨rA,gA⟩:=q1.adoptTxn g7 F7.1 M7.1 hs (by omega) hle (by omega) (txnOf (σ.made+1) level (timeOf (σ.word 0)+1)) rfl rfl rfl rfl hblk M7.2 hn6;obtain⟨A8,hA8⟩:∃ A8:Book,A8=A.newTxn s (w1.heap.size+1) w1.heap.size:=⟨_,rfl⟩
 rw[←hA8] at rA gA;have e8:A8.be=A.be:=by rw[hA8];rfl
 have e8t:A8.bt s=w1.heap.size+1:=by rw[hA8];exact if_pos rfl
 have ht8:(((σ4.put (σ.place (σ.made+1)) (pack 1 0)).put (1+s) (timeOf (σ.word 0)+1)).setT s (txnOf (σ.made+1) level (timeOf (σ.word 0)+1))).txns.getD s none=some (txnOf (σ.made+1) level (timeOf (σ.word 0)+1)):=by rw[getT_set (by show s<σ4.txns.length;rw[tx4,hL.rep.n8];exact hs),if_pos rfl]
 generalize hw8:World.setCell w7 _ _=w8 at*;have c0:=rA.txn ht8 0 (v:=zi ((σ.made:Int)+1)) rfl;have c3:=rA.txn ht8 3 (v:=zu ((timeOf (σ.word 0):Int)+1)) rfl;rw[e8t] at c0 c3;have hev:=event_any rA.drew s {kind:=1,t:=σ.made+1,n:=timeOf (σ.word 0)+1,op:=⟨0,0,0,level⟩} 1 ((σ.made:Int)+1) ((timeOf (σ.word 0):Int)+1) 0 0 0 level 0 0 0 0 none 0 0 rfl (PRow.nil _ _) (by show σ4.tale.length<_;rw[tl4];exact htl);rw[e8] at hev;have HE:=zH hev;have H8:Hid (∀ A9 w9,Rep A9 ((((σ4.put (σ.place (σ.made+1)) (pack 1 0)).put (1+s) (timeOf (σ.word 0)+1)).setT s (txnOf (σ.made+1) level (timeOf (σ.word 0)+1))).event {kind:=1,t:=σ.made+1,n:=timeOf (σ.word 0)+1,op:=⟨0,0,0,level⟩}) w9→Stay A8 A9 s→w9.cell? ⟨w1.heap.size+1,0,none⟩=some (zi ((σ.made:Int)+1))):=by
  intro A9 w9 r st;have h:=r.txn (show ((((σ4.put (σ.place (σ.made+1)) (pack 1 0)).put (1+s) (timeOf (σ.word 0)+1)).setT s (txnOf (σ.made+1) level (timeOf (σ.word 0)+1))).event {kind:=1,t:=σ.made+1,n:=timeOf (σ.word 0)+1,op:=⟨0,0,0,level⟩}).txns.getD s none=some (txnOf (σ.made+1) level (timeOf (σ.word 0)+1)) from ht8) 0 (v:=zi ((σ.made:Int)+1)) rfl;rw[st.bt,e8t] at h;exact h
 have HAA:=zH (zA hA8 (zA gA (zA cl4 ht8)));clear hL hs hn hcn hmd htm hcnt htl hx g6 F6 M6 g67 F7 M7 g7 q1 q2 hmL hbL hle p4 tx4 cl4 tl4 ct4 hn6 hblk rA gA hA8 e8 e8t ht8 hw8 hev m5 z5;refine wp_region_still_tail 12 (by kernel_rfl) (by kernel_rfl) ?_;simp only[List.take_succ_cons,List.take_zero,List.drop_succ_cons,List.drop_zero]
 repeat still_step
 refine wpStill_nil ?_;change wpList _ _ _ _ _ w8.drew;have HG9:Hid (∀ L,Grow L w8 L w8.drew):=fun L=>Grow.drew _ _
 generalize w8.drew=wd8 at*;go_wp2_with (go_at_call 53;refine HE.out.mono ?_;rintro e w9 ⟨rfl,A9,p1,p2,p3,p4,p5⟩;have t0:=H8.out A9 w9 p1 p3;have HP:=zH (zA p1 (zA p2 p3));clear p1 p2 p3 p4 p5)
 go_ret2
 obtain⟨p1,p2,p3⟩:=HP.out;obtain⟨hA8,gA,cl4,ht8⟩:=HAA.out;obtain⟨hL,hs,hn,hcn,_⟩:=HL0.out;have gg:=(gA.trans (HG9.out _)).trans p2;have hcl:∀ q,((((σ4.put (σ.place (σ.made+1)) (pack 1 0)).put (1+s) (timeOf (σ.word 0)+1)).setT s (txnOf (σ.made+1) level (timeOf (σ.word 0)+1))).event {kind:=1,t:=σ.made+1,n:=timeOf (σ.word 0)+1,op:=⟨0,0,0,level⟩}).calls.getD q none=σ.calls.getD q none:=fun q=>by show σ4.calls.getD q none=_;rw[cl4]
 rw[HS4.out.1.symm] at p1 ⊢;refine⟨A9,rfl,Live.of (s:=s) hL (sw_cas ({σ.tick with made:=σ.made+1}:St) 0 (σ.word 0) (clockW (timeOf (σ.word 0)+1) 0)) p1 gg ⟨p3.bf.trans (by rw[hA8];rfl),p3.mp.trans (by rw[hA8];rfl),p3.mt.trans (by rw[hA8];funext k;show (if k=s then 0 else A.mt k)=A.mt k;by_cases hk:k=s;rw[if_pos hk,hL.mt k];rw[if_neg hk]),fun q hq=>by rw[p3.bt,hA8];exact if_neg hq,fun q _=>by rw[p3.bc,hA8];rfl,fun q hq=>(p3.bx q hq).trans (by rw[hA8];rfl),fun q hq=>(p3.vpairs q hq).trans (by rw[hA8];rfl),fun q _=>by rw[p3.vnext,hA8];rfl,fun q _=>by rw[p3.vcall,hA8];rfl⟩ (fun q hq=>?_) (fun c' hcc=>?_) (fun _=>?_),gg,p3.be.trans (by rw[hA8];rfl)⟩
 · rw[HS4.out.1];exact hcl q
 · rw[HS4.out.1,hcl s,hcn] at hcc;cases hcc
 · rw[p3.vcall,hA8];exact hL.idle s hs hcn
theorem begin_help {A:Book} {σ:St} {w:World} (hL:Live A σ w) (s:Nat) (hs:s<8) (level:Nat) (hl1:1≤level) (hl2:level≤3) (hn:σ.txns.getD s none=none) (hcn:σ.calls.getD s none=none) (hmd:σ.made<2000) (hx:σ.word 0<18446744073709551616) (htm:timeOf (σ.word 0)<281474976710000) (hlim:timeOf (σ.word 0)<σ.limit) (hlo:0<lastOf (σ.word 0)∧lastOf (σ.word 0)≤2000) (hcnt:σ.count<3000000000000000000) (htl:σ.tale.length<1000000):
 Calls Tryz.prog 41 #[.pointer (some ⟨A.be,0,none⟩),zi (s:Int),zi (level:Int)] w (Begun A w (((((({(σ.tick.help (σ.word 0)) with made:=σ.made+1}:St).cas 0 (σ.word 0) (clockW (timeOf (σ.word 0)+1) 0)).put (σ.place (σ.made+1)) (pack 1 0)).put (1+s) (timeOf (σ.word 0)+1)).setT s (txnOf (σ.made+1) level (timeOf (σ.word 0)+1))).event {kind:=1,t:=σ.made+1,n:=timeOf (σ.word 0)+1,op:=⟨0,0,0,level⟩}) (σ.made+1)):=by
 have hR:=hL.rep;generalize hσ4:({(σ.tick.help (σ.word 0)) with made:=σ.made+1}:St).cas 0 (σ.word 0) (clockW (timeOf (σ.word 0)+1) 0)=σ4;have HS4:Hid (({(σ.tick.help (σ.word 0)) with made:=σ.made+1}:St).cas 0 (σ.word 0) (clockW (timeOf (σ.word 0)+1) 0)=σ4∧σ4.place (σ.made+1)=σ.place (σ.made+1)∧σ4.txns=σ.txns∧σ4.calls=σ.calls∧σ4.tale=σ.tale∧σ4.count<3000000000000000010):=by
  refine⟨hσ4,?_,?_,?_,?_,?_⟩<;>rw[←hσ4]
  · rw[cas_place];exact help_place σ.tick (σ.word 0) (σ.made+1)
  · rw[cas_txns];exact help_txns σ.tick (σ.word 0)
  · rw[cas_calls];exact help_calls σ.tick (σ.word 0)
  · rw[cas_tale];exact help_tale σ.tick (σ.word 0)
  · rw[cas_count];show (σ.tick.help (σ.word 0)).count+1<_;rw[help_count];show σ.count+1+1+1<_;omega
 clear hσ4;have b1:(s:Int)<8:=by omega
 have b0:(0:Int)≤(s:Int):=by omega
 have hsok:=zH (sessionOk s hs);have hlev:=zH (levelOk level hl1 hl2);have e2:w.cell? ⟨A.be,2,none⟩=some (.pointer (some ⟨A.ba,0,none⟩)):=hR.eng 2 rfl;have v5:=hR.eng (5+s) (engCs_txn A σ hs);rw[show A.tp σ s=.pointer none by unfold Book.tp;rw[hn]] at v5;have v21:w.cell? ⟨A.be,21,none⟩=some (zi (σ.made:Int)):=hR.eng 21 rfl;have d1:decide ((2000:Int)≤(σ.made:Int))=false:=by simp;omega
 have d2:((2000:Int)≤(σ.made:Int))=False:=by simp;omega
 have d3:(2000≤σ.made)=False:=by simp;omega
 have l1:decide ((σ.limit:Int)≤(timeOf (σ.word 0):Int))=false:=by simp;omega
 have l2:((σ.limit:Int)≤(timeOf (σ.word 0):Int))=False:=by simp;omega
 have l3:(σ.limit≤timeOf (σ.word 0))=False:=by simp;omega
 have k1:decide ((0:Int)<(lastOf (σ.word 0):Int))=true:=by simp;omega
 have k2:((0:Int)<(lastOf (σ.word 0):Int))=True:=by simp;omega
 have k3:(0<lastOf (σ.word 0))=True:=by simp;omega
 have n1:IntKind.i64.wrap ((σ.made:Int)+1)=(σ.made:Int)+1:=by rw[IntKind.wrap_i64];omega
 have n2:IntKind.u64.wrap ((timeOf (σ.word 0):Int)+1)=(timeOf (σ.word 0):Int)+1:=by rw[IntKind.wrap_u64];omega
 have n3:IntKind.i64.wrap (1+(s:Int))=1+(s:Int):=by rw[IntKind.wrap_i64];omega
 have HLo:=zH (load_i hR 0 0 rfl (by rw[hR.nw];omega) (by omega));have HDr:=zH (fun w'=>drawn_any (σ.word 0) hx w');have H1:Hid (∀ w1,Rep A σ.tick w1→Grow A.L w A.L w1→w1.cell? ⟨A.be,1,none⟩=some (zu (σ.limit:Int))∧w1.cell? ⟨A.be,21,none⟩=some (zi (σ.made:Int))∧w1.frozen? ⟨A.be,21,none⟩=false∧Calls Tryz.prog 74 #[.pointer (some ⟨A.be,0,none⟩),zu (σ.word 0:Int)] w1 (Did A w1 (σ.tick.help (σ.word 0)) (.tuple #[]))):=
  fun w1 r g=>⟨r.eng 1 rfl,r.eng 21 rfl,r.engF 21,help_any r (σ.word 0) hx hlo.2 (by show σ.count+1<_;omega)⟩
 have H2 : Hid (∀ w1 w2, Rep A (σ.tick.help (σ.word 0)) w2 → Grow A.L w1 A.L w2 → w2.cell? ⟨A.be, 21, none⟩ = some (zi (σ.made : Int)) ∧ w2.frozen? ⟨A.be, 21, none⟩ = false) := fun w1 w2 r g => ⟨by
     have h:=r.eng 21 (v:=zi ((σ.tick.help (σ.word 0)).made:Int)) rfl
     rw[show (σ.tick.help (σ.word 0)).made=σ.made by unfold St.help St.cas;split<;>rfl] at h
     exact h,r.engF 21⟩
 have hmm:∀ w,(Instr.makeMap 114 none).run Tryz.prog w=.ok (.map (some w.heap.size)) (w.alloc (.map #[] 0)):=fun w=>rfl
 have HL0:=zH (zA hL (zA hs (zA hn (zA hcn (zA hmd (zA htm (zA hcnt (zA htl hx))))))));clear hL hs hl1 hl2 hn hcn hmd hx htm hlim hlo hcnt htl;clear hR;go_enter Tryz.func41,Tryz.ntmps41;go_wp2_with (first|(go_at_call 48;refine (hsok.out _).mono ?_;rintro e w' ⟨rfl,rfl⟩)|(go_at_call 72;refine (hlev.out _).mono ?_;rintro e w' ⟨rfl,rfl⟩)|(go_at_call 73;refine HLo.out.mono ?_;rintro e w1 ⟨rfl,q1,q2⟩;obtain⟨y1,y2,y3,hhelp⟩:=H1.out w1 q1 q2;have HH:=zH hhelp;clear hhelp;have HQ1:=zH (zA q1 q2);clear q1 q2)|(go_at_call 59;refine (HDr.out _).mono ?_;rintro e w' ⟨rfl,rfl⟩)|(go_at_call 74;refine HH.out.mono ?_;rintro e w2 ⟨rfl,q1,q2⟩;obtain⟨y4,y5⟩:=H2.out w1 w2 q1 q2;have HQ2:=zH (zA q1 q2);clear q1 q2));obtain⟨hL,hs,hn,hcn,hmd,htm,hcnt,htl,hx⟩:=HL0.out;obtain⟨r1,g12⟩:=HQ2.out;have g1:=HQ1.out.2.trans g12;clear g12;obtain⟨rm,gm⟩:=r1.madeSet (σ.made+1);rw[show ((σ.made+1:Nat):Int)=(σ.made:Int)+1 from rfl] at rm gm;have hz3:(w2.setCell ⟨A.be,21,none⟩ (zi ((σ.made:Int)+1))).heap.size=w2.heap.size:=by simp[World.setCell]
 generalize hw3:w2.setCell ⟨A.be,21,none⟩ (zi ((σ.made:Int)+1))=w3 at*;generalize hw4:(w3.alloc (.map #[] 0)).alloc _=w4;have r4:Rep A ({(σ.tick.help (σ.word 0)) with made:=σ.made+1}:St) w4:=by rw[←hw4];exact (rm.alloc _).alloc _
 have g34:Grow A.L w3 A.L w4:=by rw[←hw4];exact (Grow.alloc _ _ _).trans (Grow.alloc _ _ _)
 have g4:Grow A.L w A.L w4:=(g1.trans gm).trans g34;have hm4:w4.heap[w2.heap.size]? =some (.map #[] 0):=by rw[←hw4,←hz3];exact (Below.heap_alloc _ _ _ (by simp)).trans (heap_alloc_new w3 _)
 have hb4:w4.heap[w2.heap.size+1]? =some (.cells #[zi ((σ.made:Int)+1),zi (level:Int),zi (s:Int),zu ((timeOf (σ.word 0):Int)+1),zu 0,zi 0,.slice none 0 0,.map (some w2.heap.size),.slice none 0 0,.slice none 0 0,.int .u32 0,.int .i32 0,.int .u32 0,.bool false] 129):=by rw[←hw4,←hz3];exact heap_alloc2_new w3 _ _
 have hmL:A.L w2.heap.size=none:=by rw[←hz3];exact rm.mem.fresh _ (Nat.le_refl _)
 have hbL:A.L (w2.heap.size+1)=none:=by rw[←hz3];exact rm.mem.fresh _ (by omega)
 have hle:w.heap.size≤w2.heap.size:=g1.size;have F4:Fix A.L w4 (w2.heap.size+1) (.cells #[zi ((σ.made:Int)+1),zi (level:Int),zi (s:Int),zu ((timeOf (σ.word 0):Int)+1),zu 0,zi 0,.slice none 0 0,.map (some w2.heap.size),.slice none 0 0,.slice none 0 0,.int .u32 0,.int .i32 0,.int .u32 0,.bool false] 129):=⟨hbL,hb4⟩
 have M4:Fix A.L w4 w2.heap.size (.map #[] 0):=⟨hmL,hm4⟩
 have a2:=r4.eng 2 (v:=.pointer (some ⟨A.ba,0,none⟩)) rfl;have a3:=F4.cell 3 (v:=zu ((timeOf (σ.word 0):Int)+1)) rfl;have hk:Calls Tryz.prog 76 #[zu ((timeOf (σ.word 0):Int)+1),zi 0] w4.drew fun e w'=>e=.returned (zu ((clockW (timeOf (σ.word 0)+1) 0:Nat):Int))∧w'=w4.drew:=flip (clock_any (timeOf (σ.word 0)+1) 0 (by omega) (by omega) w4.drew)
 have HC:=zH hk;have HCA:=zH (cas_i r4.drew 0 (σ.word 0) (clockW (timeOf (σ.word 0)+1) 0) 0 rfl (by rw[r4.nw];omega) (by show (σ.tick.help (σ.word 0)).count<_;have:=help_count σ.tick (σ.word 0);have e:σ.tick.count=σ.count+1:=rfl;omega));have H4:=zH (zA g4 (zA F4 (zA M4 (zA hmL (zA hbL hle)))));clear hL hs hn hcn hmd htm hcnt htl hx r1 g1 rm gm hz3 hw3 hw4 r4 g34 g4 hm4 hb4 hmL hbL hle F4 M4 hk;refine wp_region_still_tail 10 (by kernel_rfl) (by kernel_rfl) ?_;simp only[List.take_succ_cons,List.take_zero,List.drop_succ_cons,List.drop_zero]
 repeat still_step
 still_call HC.out
 refine wpStill_nil ?_;change wpList _ _ _ _ _ w4.drew;have HG4:Hid (Grow A.L w4 A.L w4.drew):=Grow.drew _ _;generalize w4.drew=wd4 at*;go_wp2_with (go_at_call 75;refine HCA.out.mono ?_;rintro e w5 ⟨rfl,q1,q2⟩);obtain⟨g4,F4,M4,hmL,hbL,hle⟩:=H4.out;obtain⟨hL,hs,hn,hcn,hmd,htm,hcnt,htl,hx⟩:=HL0.out;rw[HS4.out.1] at q1;obtain⟨-,p4,tx4,cl4,tl4,ct4⟩:=HS4.out;have g45:=HG4.out.trans q2;have F5:=F4.grow g45;have M5:=M4.grow g45;have g5:=g4.trans g45;have a2:=q1.eng 2 (v:=.pointer (some ⟨A.ba,0,none⟩)) rfl;have a0:=F5.cell 0 (v:=zi ((σ.made:Int)+1)) rfl;have hpl:Calls Tryz.prog 78 #[.pointer (some ⟨A.be,0,none⟩),zi ((σ.made:Int)+1)] w5.drew fun e w'=>e=.returned (zi ((σ.place (σ.made+1):Nat):Int))∧w'=w5.drew:=by
  have h:=place_still q1.drew (σ.made+1) (by omega);rw[p4] at h;exact h
 have HPL:=zH hpl;have HPK:=zH (pack_still 1 0 1 0 rfl rfl (by omega) (by omega) w5.drew);have HST:=zH (store_any q1.drew (σ.place (σ.made+1)) (pack 1 0) (by rw[q1.nw];have:=q1.sl;have:=congrArg (fun x=>x) p4;unfold St.place at p4 ⊢;omega) (by omega));have H5:=zH (zA g5 (zA F5 (zA M5 q1)));clear hL hs hn hcn hmd htm hcnt htl hx g4 F4 M4 hmL hbL hle g45 F5 M5 g5 q1 q2 hpl p4 tx4 cl4 tl4 ct4;refine wp_region_still_tail 11 (by kernel_rfl) (by kernel_rfl) ?_;simp only[List.take_succ_cons,List.take_zero,List.drop_succ_cons,List.drop_zero]
 repeat still_step
 still_call HPL.out
 still_call HPK.out
 refine wpStill_nil ?_;change wpList _ _ _ _ _ w5.drew;have HG6:Hid (Grow A.L w5 A.L w5.drew):=Grow.drew _ _;generalize w5.drew=wd5 at*;go_wp2_with (go_at_call 77;refine HST.out.mono ?_;rintro e w6 ⟨rfl,q1,q2⟩);obtain⟨g5,F5,M5,_⟩:=H5.out;obtain⟨hL,hs,hn,hcn,hmd,htm,hcnt,htl,hx⟩:=HL0.out;have ct4:=HS4.out.2.2.2.2.2;have g56:=HG6.out.trans q2;have F6:=F5.grow g56;have M6:=M5.grow g56;have g6:=g5.trans g56;have a2:=q1.eng 2 (v:=.pointer (some ⟨A.ba,0,none⟩)) rfl;have a3:=F6.cell 3 (v:=zu ((timeOf (σ.word 0):Int)+1)) rfl;have HSU:=zH (store_i q1.drew (1+s) (timeOf (σ.word 0)+1) (1+(s:Int)) ((timeOf (σ.word 0):Int)+1) (by omega) (by omega) (by rw[q1.nw];omega) (by show σ4.count+1<_;omega));have H6:=zH (zA g6 (zA F6 M6));have HV5:Hid (∀ w7,Rep A ((σ4.put (σ.place (σ.made+1)) (pack 1 0)).put (1+s) (timeOf (σ.word 0)+1)) w7→w7.cell? ⟨A.be,5+s,none⟩=some (.pointer none)∧w7.frozen? ⟨A.be,5+s,none⟩=false):=by
  intro w7 r;have h:=r.eng (5+s) (engCs_txn A _ hs);rw[show A.tp ((σ4.put (σ.place (σ.made+1)) (pack 1 0)).put (1+s) (timeOf (σ.word 0)+1)) s=.pointer none by unfold Book.tp;rw[show ((σ4.put (σ.place (σ.made+1)) (pack 1 0)).put (1+s) (timeOf (σ.word 0)+1)).txns.getD s none=none by show σ4.txns.getD s none=none;rw[HS4.out.2.2.1];exact hn]] at h;exact⟨h,r.engF _⟩
 clear hL hs hn hcn hmd htm hcnt htl hx g5 F5 M5 g56 F6 M6 g6 q1 q2 ct4;refine wp_region_still_tail 10 (by kernel_rfl) (by kernel_rfl) ?_;simp only[List.take_succ_cons,List.take_zero,List.drop_succ_cons,List.drop_zero]
 repeat still_step
 refine wpStill_nil ?_;change wpList _ _ _ _ _ w6.drew;have HG7:Hid (Grow A.L w6 A.L w6.drew):=Grow.drew _ _;generalize w6.drew=wd6 at*;go_wp2_with (go_at_call 77;refine HSU.out.mono ?_;rintro e w7 ⟨rfl,q1,q2⟩;obtain⟨m5,z5⟩:=HV5.out w7 q1;have H7:=zH (zA q1 q2);clear q1 q2);obtain⟨g6,F6,M6⟩:=H6.out;obtain⟨q1,q2⟩:=H7.out;obtain⟨_,_,_,hmL,hbL,hle⟩:=H4.out;obtain⟨hL,hs,hn,hcn,hmd,htm,hcnt,htl,hx⟩:=HL0.out;obtain⟨-,p4,tx4,cl4,tl4,ct4⟩:=HS4.out;have g67:=HG7.out.trans q2;have F7:=F6.grow g67;have M7:=M6.grow g67;have g7:=g6.trans g67;have hn6:((σ4.put (σ.place (σ.made+1)) (pack 1 0)).put (1+s) (timeOf (σ.word 0)+1)).txns.getD s none=none:=by show σ4.txns.getD s none=none;rw[tx4];exact hn
 have hblk:w7.heap[w2.heap.size+1]? =some (.cells (txnCs (A.newTxn s (w2.heap.size+1) w2.heap.size) s (txnOf (σ.made+1) level (timeOf (σ.word 0)+1))).toArray 129):=by
  rw[show (txnCs (A.newTxn s (w2.heap.size+1) w2.heap.size) s (txnOf (σ.made+1) level (timeOf (σ.word 0)+1))).toArray=#[zi ((σ.made:Int)+1),zi (level:Int),zi (s:Int),zu ((timeOf (σ.word 0):Int)+1),zu 0,zi 0,.slice none 0 0,.map (some w2.heap.size),.slice none 0 0,.slice none 0 0,.int .u32 0,.int .i32 0,.int .u32 0,.bool false] by simp[txnCs,Book.newTxn,upF,onceCs,txnOf]];exact F7.2
 obtain⟨rA,gA⟩:=q1.adoptTxn g7 F7.1 M7.1 hs (by omega) hle (by omega) (txnOf (σ.made+1) level (timeOf (σ.word 0)+1)) rfl rfl rfl rfl hblk M7.2 hn6;obtain⟨A8,hA8⟩:∃ A8:Book,A8=A.newTxn s (w2.heap.size+1) w2.heap.size:=⟨_,rfl⟩
 rw[←hA8] at rA gA;have e8:A8.be=A.be:=by rw[hA8];rfl
 have e8t:A8.bt s=w2.heap.size+1:=by rw[hA8];exact if_pos rfl
 have ht8:(((σ4.put (σ.place (σ.made+1)) (pack 1 0)).put (1+s) (timeOf (σ.word 0)+1)).setT s (txnOf (σ.made+1) level (timeOf (σ.word 0)+1))).txns.getD s none=some (txnOf (σ.made+1) level (timeOf (σ.word 0)+1)):=by rw[getT_set (by show s<σ4.txns.length;rw[tx4,hL.rep.n8];exact hs),if_pos rfl]
 generalize hw8:World.setCell w7 _ _=w8 at*;have c0:=rA.txn ht8 0 (v:=zi ((σ.made:Int)+1)) rfl;have c3:=rA.txn ht8 3 (v:=zu ((timeOf (σ.word 0):Int)+1)) rfl;rw[e8t] at c0 c3;have hev:=event_any rA.drew s {kind:=1,t:=σ.made+1,n:=timeOf (σ.word 0)+1,op:=⟨0,0,0,level⟩} 1 ((σ.made:Int)+1) ((timeOf (σ.word 0):Int)+1) 0 0 0 level 0 0 0 0 none 0 0 rfl (PRow.nil _ _) (by show σ4.tale.length<_;rw[tl4];exact htl);rw[e8] at hev;have HE:=zH hev;have H8:Hid (∀ A9 w9,Rep A9 ((((σ4.put (σ.place (σ.made+1)) (pack 1 0)).put (1+s) (timeOf (σ.word 0)+1)).setT s (txnOf (σ.made+1) level (timeOf (σ.word 0)+1))).event {kind:=1,t:=σ.made+1,n:=timeOf (σ.word 0)+1,op:=⟨0,0,0,level⟩}) w9→Stay A8 A9 s→w9.cell? ⟨w2.heap.size+1,0,none⟩=some (zi ((σ.made:Int)+1))):=by
  intro A9 w9 r st;have h:=r.txn (show ((((σ4.put (σ.place (σ.made+1)) (pack 1 0)).put (1+s) (timeOf (σ.word 0)+1)).setT s (txnOf (σ.made+1) level (timeOf (σ.word 0)+1))).event {kind:=1,t:=σ.made+1,n:=timeOf (σ.word 0)+1,op:=⟨0,0,0,level⟩}).txns.getD s none=some (txnOf (σ.made+1) level (timeOf (σ.word 0)+1)) from ht8) 0 (v:=zi ((σ.made:Int)+1)) rfl;rw[st.bt,e8t] at h;exact h
 have HAA:=zH (zA hA8 (zA gA (zA cl4 ht8)));clear hL hs hn hcn hmd htm hcnt htl hx g6 F6 M6 g67 F7 M7 g7 q1 q2 hmL hbL hle p4 tx4 cl4 tl4 ct4 hn6 hblk rA gA hA8 e8 e8t ht8 hw8 hev m5 z5;refine wp_region_still_tail 12 (by kernel_rfl) (by kernel_rfl) ?_;simp only[List.take_succ_cons,List.take_zero,List.drop_succ_cons,List.drop_zero]
 repeat still_step
 refine wpStill_nil ?_;change wpList _ _ _ _ _ w8.drew;have HG9:Hid (∀ L,Grow L w8 L w8.drew):=fun L=>Grow.drew _ _
 generalize w8.drew=wd8 at*;go_wp2_with (go_at_call 53;refine HE.out.mono ?_;rintro e w9 ⟨rfl,A9,p1,p2,p3,p4,p5⟩;have t0:=H8.out A9 w9 p1 p3;have HP:=zH (zA p1 (zA p2 p3));clear p1 p2 p3 p4 p5)
 go_ret2
 obtain⟨p1,p2,p3⟩:=HP.out;obtain⟨hA8,gA,cl4,ht8⟩:=HAA.out;obtain⟨hL,hs,hn,hcn,_⟩:=HL0.out;have gg:=(gA.trans (HG9.out _)).trans p2;have hcl:∀ q,((((σ4.put (σ.place (σ.made+1)) (pack 1 0)).put (1+s) (timeOf (σ.word 0)+1)).setT s (txnOf (σ.made+1) level (timeOf (σ.word 0)+1))).event {kind:=1,t:=σ.made+1,n:=timeOf (σ.word 0)+1,op:=⟨0,0,0,level⟩}).calls.getD q none=σ.calls.getD q none:=fun q=>by show σ4.calls.getD q none=_;rw[cl4]
 rw[HS4.out.1.symm] at p1 ⊢;refine⟨A9,rfl,Live.of (s:=s) hL ⟨(sw_cas ({σ.tick.help (σ.word 0) with made:=σ.made+1}:St) 0 (σ.word 0) (clockW (timeOf (σ.word 0)+1) 0)).1.trans (sw_help σ.tick (σ.word 0)).1,(sw_cas ({σ.tick.help (σ.word 0) with made:=σ.made+1}:St) 0 (σ.word 0) (clockW (timeOf (σ.word 0)+1) 0)).2.trans (sw_help σ.tick (σ.word 0)).2⟩ p1 gg ⟨p3.bf.trans (by rw[hA8];rfl),p3.mp.trans (by rw[hA8];rfl),p3.mt.trans (by rw[hA8];funext k;show (if k=s then 0 else A.mt k)=A.mt k;by_cases hk:k=s;rw[if_pos hk,hL.mt k];rw[if_neg hk]),fun q hq=>by rw[p3.bt,hA8];exact if_neg hq,fun q _=>by rw[p3.bc,hA8];rfl,fun q hq=>(p3.bx q hq).trans (by rw[hA8];rfl),fun q hq=>(p3.vpairs q hq).trans (by rw[hA8];rfl),fun q _=>by rw[p3.vnext,hA8];rfl,fun q _=>by rw[p3.vcall,hA8];rfl⟩ (fun q hq=>?_) (fun c' hcc=>?_) (fun _=>?_),gg,p3.be.trans (by rw[hA8];rfl)⟩
 · rw[HS4.out.1];exact hcl q
 · rw[HS4.out.1,hcl s,hcn] at hcc;cases hcc
 · rw[p3.vcall,hA8];exact hL.idle s hs hcn
end Go.Proofs.YtbefcdjcefmicaaGreat.Em
