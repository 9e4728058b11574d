import Derived.Test.YthicolbbmjfkfaaGreatQp18
import Derived.Lib.AppendZerosOnto
namespace Go.Proofs.YthicolbbmjfkfaaGreat.Em
open Go.ChangeShapes Go.WideShapes Go.ChangeAt Go.RowKit En
set_option linter.unusedVariables false
set_option linter.unusedSimpArgs false
set_option maxRecDepth 100000
set_option maxHeartbeats 1600000
section
variable {L L':Lab} {w w':World}
theorem PRow.soft {v:Value} {xs:List Value} (f:PRow L w v xs) (h:Soft L w L' w'):PRow L' w' v xs:=by
 refine⟨f.1.soft h,fun g off n cap hv=>?_⟩
 rcases f.2 g off n cap hv with h0|⟨cs,hc⟩
 · exact .inl h0
 · by_cases hn:n=0
   · exact .inl hn
   · obtain⟨ad,n',cap',e1,e2,e3,e4,e5⟩:=f.1
     obtain⟨rfl,rfl,rfl⟩:ad=some ⟨g,off,none⟩∧n'=n∧cap'=cap:=by rw[hv] at e1;simp at e1;exact⟨e1.1.symm,e1.2.1.symm,e1.2.2.symm⟩
     obtain⟨g',off',e6,e7,e8,_⟩:=e5.resolve_left hn;obtain⟨rfl,rfl⟩:g=g'∧off=off':=by simpa using e6
     exact .inr ⟨cs,(h.block g e8 e7).trans hc⟩
theorem Evs.soft (h:Soft L w L' w'):∀ {l:List Ev} {xs:List Value},Evs L w l xs→Evs L' w' l xs
 |[],_,f=>f
 |_::_,_,⟨vp,ys,h1,h2,h3⟩=>⟨vp,ys,h1,h2.soft h,Evs.soft h h3⟩
end
def issueSt (σ:St) (s:Nat) (o:En.Op) (t:Txn):St:=if opEnds o then (({σ with seq:=σ.seq+1}:St).setC s (callOf o (σ.seq+1))) else (({(σ.setT s {t with ops:=t.ops+1}) with seq:=σ.seq+1}:St).setC s (callOf o (σ.seq+1)))
def issueOk (σ:St) (s:Nat) (o:En.Op):Option St:=
 match σ.txns.getD s none with
 |some t=>
  if opOk o=true∧(σ.calls.getD s none).isNone=true∧(t.ops<12∨(opEnds o=true∧t.ops<1000000))∧σ.seq<4000000000000000000∧s<σ.calls.length∧s<σ.txns.length∧okFirst (issueSt σ s o t) s=true then
   match (issueSt σ s o t).first s with
   |(σ4,k)=>
    match σ4.calls.getD s none with
    |some c4=>if okOthers σ σ4 s=true then some (σ4.setC s {c4 with k:=some k}) else none
    |none=>none
  else none
 |none=>none
theorem setC_at {σ:St} {s:Nat} (c:Cal) (h:s<σ.calls.length):(σ.setC s c).calls.getD s none=some c:=by
 unfold St.setC;simp[List.getD_eq_getElem?_getD,List.getElem?_set,h]
theorem setT_at {σ:St} {s:Nat} (t:Txn) (h:s<σ.txns.length):(σ.setT s t).txns.getD s none=some t:=by
 unfold St.setT;simp[List.getD_eq_getElem?_getD,List.getElem?_set,h]
theorem issue_to {σ σ1:St} {s:Nat} {o:En.Op} (hs:s<8) (h:issueOk σ s o=some σ1):IssueTo σ s o σ1 0:=by
 intro A w hL;unfold issueOk at h
 split at h
 · rename_i t ht
   split at h
   · rename_i hh
     obtain⟨ho,hn,hop,hsq,hcl,htl,hof⟩:=hh;have hn':σ.calls.getD s none=none:=by simpa using hn
     split at h
     rename_i σ4 k hf
     split at h
     · rename_i c4 hc4
       split at h
       · rename_i hoth
         obtain rfl:=Option.some.inj h;have hcq:=okOthers_iff hoth;unfold issueSt at hof hf
         cases he:opEnds o with
         |true=>
          rw[he] at hof hf;simp only[if_true] at hof hf;exact issue_ends hL s hs t ht o ho he hn' (by omega) hsq (firstTo (t:=t) ht (setC_at _ hcl) hof) σ4 k hf c4 hc4 hcq
         |false=>
          rw[he] at hof hf;simp only[Bool.false_eq_true,if_false] at hof hf;exact issue_other hL s hs t ht o ho he hn' (hop.resolve_right (fun h=>by rw[he] at h;cases h.1)) hsq (firstTo (t:={t with ops:=t.ops+1}) (setT_at _ htl) (setC_at _ hcl) hof) σ4 k hf c4 hc4 hcq
       · cases h
     · cases h
   · cases h
 · cases h
def BeginTo (σ:St) (s level:Nat) (σ1:St) (id:Nat):Prop:=∀ A w,Live A σ w→Calls Tryz.prog 9 #[.pointer (some ⟨A.be,0,none⟩),zi (s:Int),zi (level:Int)] w (Begun A w σ1 id)
def beginSt (σ:St) (s level:Nat) (σ2:St):St:=
 ((((({σ2 with made:=σ.made+1}:St).cas 0 (σ.word 0) (clockW (timeOf (σ.word 0)+1) 0)).put (σ.place (σ.made+1)) (pack 1 0)).put (1+s) (timeOf (σ.word 0)+1)).setT s (txnOf (σ.made+1) level (timeOf (σ.word 0)+1))).event {kind:=1,t:=σ.made+1,n:=timeOf (σ.word 0)+1,op:=⟨0,0,0,level⟩}
def beginOk (σ:St) (s level:Nat):Option (St×Nat):=
 if 1≤level∧level≤3∧(σ.txns.getD s none).isNone=true∧(σ.calls.getD s none).isNone=true∧σ.made<2000∧σ.word 0<18446744073709551616∧timeOf (σ.word 0)<281474976710000∧timeOf (σ.word 0)<σ.limit∧σ.count<3000000000000000000∧σ.tale.length<1000000 then
  if lastOf (σ.word 0)=0 then some (beginSt σ s level σ.tick,σ.made+1)
  else if lastOf (σ.word 0)≤2000 then some (beginSt σ s level (σ.tick.help (σ.word 0)),σ.made+1)
  else none
 else none
theorem begin_to {σ σ1:St} {s level id:Nat} (hs:s<8) (h:beginOk σ s level=some (σ1,id)):BeginTo σ s level σ1 id:=by
 intro A w hL;unfold beginOk at h
 split at h
 · rename_i hh
   obtain⟨h1,h2,h3,h4,h5,h6,h7,h8,h9,h10⟩:=hh
   split at h
   · rename_i hl
     simp only[Option.some.injEq,Prod.mk.injEq] at h;obtain⟨rfl,rfl⟩:=h;exact begin_new hL s hs level h1 h2 (by simpa using h3) (by simpa using h4) h5 h6 h7 h8 hl h9 h10
   · rename_i hl
     split at h
     · rename_i hl2
       simp only[Option.some.injEq,Prod.mk.injEq] at h;obtain⟨rfl,rfl⟩:=h;exact begin_help hL s hs level h1 h2 (by simpa using h3) (by simpa using h4) h5 h6 h7 h8 ⟨by omega,hl2⟩ h9 h10
     · cases h
 · cases h
theorem FRow.at {L:Lab} {w:World} {size:Nat} {g n cap:Nat} {xs:List Value} (h:FRow L w size (.slice (some ⟨g,0,none⟩) n cap) xs) {j:Nat} {v:Value} (hj:xs[j]? =some v):w.cell? ⟨g,j,none⟩=some v:=by
 obtain⟨a,n',cap',h1,h2,h3,h4,h5⟩:=h;have hlt:j<xs.length:=(List.getElem?_eq_some_iff.1 hj).1;simp only[Value.slice.injEq] at h1;obtain⟨rfl,rfl,rfl⟩:=h1
 rcases h5 with h5|⟨g',off,e1,e2,e3,e4⟩
 · subst h5;omega
 · simp only[Option.some.injEq,Addr.mk.injEq] at e1
   obtain⟨rfl,rfl,_⟩:=e1;have:=e4 j (by omega);rw[Nat.zero_add,hj] at this;exact this
theorem FRow.row {L:Lab} {w:World} {size:Nat} {v:Value} {xs:List Value} (h:FRow L w size v xs):Ow.Row w 0 size v xs:=by
 obtain⟨a,n,cap,h1,h2,h3,h4,h5⟩:=h;refine⟨a,n,cap,h1,h2,h3,h4,?_⟩
 rcases h5 with h5|⟨g,off,e1,e2,e3,e4⟩
 · exact .inl h5
 · exact .inr ⟨g,off,e1,Nat.zero_le _,e3,e4⟩
theorem Grow.toBelow {L':Lab} {w w':World} (g:Grow (fun _=>none) w L' w'):Below w.heap.size w w':=⟨g.os,g.tape,g.output,g.size,fun b hb=>g.block b hb rfl⟩
theorem status_01 {A:Book} {σ:St} {w:World} (hL:Live A σ w) (s:Nat) (hs:s<8) (t:Txn) (ht:σ.txns.getD s none=some t) (he:t.end_=0) (c:Cal) (hc:σ.calls.getD s none=some c):
 Calls Tryz.prog 10 #[.pointer (some ⟨A.be,0,none⟩),zi (s:Int)] w fun e w'=>e=.returned (.agg #[.bool true,.bool true,.bool c.waits,zi (t.id:Int),zi (t.level:Int),zi 1,zu (t.begin_:Int),zu (t.end_:Int),zi (t.ops:Int)])∧Below w.heap.size w w':=by
 have hR:=hL.rep;have b1:(s:Int)<8:=by omega
 have b0:(0:Int)≤(s:Int):=by omega
 have hsok:=zH (sessionOk s hs);have r1:=hR.alloc (.cells #[.bool false,.bool false,.bool false,zi 0,zi 0,zi 0,zu 0,zu 0,zi 0] 42);have H1:Hid (∀ w',Below (w.alloc (.cells #[.bool false,.bool false,.bool false,zi 0,zi 0,zi 0,zu 0,zu 0,zi 0] 42)).heap.size (w.alloc (.cells #[.bool false,.bool false,.bool false,zi 0,zi 0,zi 0,zu 0,zu 0,zi 0] 42)) w'→w'.cell? ⟨A.be,5+s,none⟩=some (.pointer (some ⟨A.bt s,0,none⟩))∧w'.cell? ⟨A.be,13+s,none⟩=some (.pointer (some ⟨A.bc s,0,none⟩))∧w'.cell? ⟨A.bt s,0,none⟩=some (zi (t.id:Int))∧w'.cell? ⟨A.bt s,1,none⟩=some (zi (t.level:Int))∧w'.cell? ⟨A.bt s,3,none⟩=some (zu (t.begin_:Int))∧w'.cell? ⟨A.bt s,4,none⟩=some (zu (t.end_:Int))∧w'.cell? ⟨A.bt s,5,none⟩=some (zi (t.ops:Int))∧w'.cell? ⟨A.bc s,10,none⟩=some (.bool c.waits)):=by
  intro w' hb;have r:=r1.below hb;have h5:=r.eng (5+s) (engCs_txn A σ hs);rw[show A.tp σ s=.pointer (some ⟨A.bt s,0,none⟩) by unfold Book.tp;rw[ht]] at h5;have h13:=r.eng (13+s) (engCs_call A σ hs);rw[(hL.call s hs c hc).1,show ptr (A.bc s)=.pointer (some ⟨A.bc s,0,none⟩) from rfl] at h13;exact⟨h5,h13,r.txn ht 0 rfl,r.txn ht 1 rfl,r.txn ht 3 rfl,r.txn ht 4 rfl,r.txn ht 5 rfl,r.call hc 10 rfl⟩
 obtain⟨v5,v13,t0,t1,t3,t4,t5,c10⟩:=H1.out _ (Below.refl _ _);obtain⟨fe1,fe2,fe3,fe4,fe5⟩:=zeT (x:=t.end_) (c:=0) (ci:=0) (by omega);have ff1:decide ((0:Int)<(t.end_:Int))=false:=by simp<;>omega
 have ff2:((0:Int)<(t.end_:Int))=False:=by simp<;>omega
 have ff3:(0<t.end_)=False:=by simp<;>omega
 have ff4:decide (0<t.end_)=false:=by simp<;>omega
 clear hL hR hs ht r1 he;go_enter Tryz.func10,Tryz.ntmps10;go_wp2_with (go_at_call 40;refine (hsok.out _).mono ?_;rintro e w' ⟨rfl,rfl⟩);have HZ0:Hid ((w.alloc (.cells #[.bool false,.bool false,.bool false,zi 0,zi 0,zi 0,zu 0,zu 0,zi 0] 42)).heap[w.heap.size]? =some (.cells #[.bool false,.bool false,.bool false,zi 0,zi 0,zi 0,zu 0,zu 0,zi 0] 42)∧Below w.heap.size w (w.alloc (.cells #[.bool false,.bool false,.bool false,zi 0,zi 0,zi 0,zu 0,zu 0,zi 0] 42))∧w.heap.size<(w.alloc (.cells #[.bool false,.bool false,.bool false,zi 0,zi 0,zi 0,zu 0,zu 0,zi 0] 42)).heap.size):=⟨heap_alloc_new w _,(Below.refl _ w).alloc (Nat.le_refl _) _,by simp⟩
 clear v5 v13 t0 t1 t3 t4 t5 c10;generalize hw0:w.alloc _=w0 at*;obtain⟨v5,v13,t0,t1,t3,t4,t5,c10⟩:=H1.out w0 (Below.refl _ _)
 go_quiet (fail)
 clear v5 v13 t0 t1 t3 t4 t5 c10;generalize hw5:w0.drewN _=w5;have hb5:Below w0.heap.size w0 w5:=by rw[←hw5];exact⟨rfl,rfl,rfl,Nat.le_refl _,fun _ _=>rfl⟩
 obtain⟨v5,v13,t0,t1,t3,t4,t5,c10⟩:=H1.out w5 hb5;obtain⟨_,_,y0,y1,y3,y4,y5,y10⟩:=H1.out (w5.alloc (.cells #[.bool false,.bool false,.bool false,zi 0,zi 0,zi 0,zu 0,zu 0,zi 0] 42)) (hb5.alloc hb5.size _);go_wp2_with fail
 go_region
 generalize hw6:World.drew _=w6;have F6:Fix (fun _=>none) w6 w5.heap.size (.cells #[.bool true,.bool false,.bool false,zi (t.id:Int),zi (t.level:Int),zi 1,zu (t.begin_:Int),zu (t.end_:Int),zi (t.ops:Int)] 42):=⟨rfl,by rw[←hw6];exact heap_alloc_new w5 _⟩
 have hb6:Below w0.heap.size w0 w6:=by rw[←hw6];exact (hb5.alloc hb5.size _).drew
 have hz6:w5.heap.size<w6.heap.size:=lt_of F6.2;have HB6:=zH (zA hb6 (zA F6 hb5.size));obtain⟨_,_,_,_,_,u4,_,_⟩:=H1.out w6 hb6;clear v5 v13 t0 t1 t3 t4 t5 y0 y1 y3 y4 y5 c10 y10;have s0:=F6.cell 0 (v:=.bool true) rfl;have s1:=F6.cell 1 (v:=.bool false) rfl;have s2:=F6.cell 2 (v:=.bool false) rfl;have s3:=F6.cell 3 (v:=zi (t.id:Int)) rfl;have s4:=F6.cell 4 (v:=zi (t.level:Int)) rfl;have s5:=F6.cell 5 (v:=zi 1) rfl;have s6:=F6.cell 6 (v:=zu (t.begin_:Int)) rfl;have s7:=F6.cell 7 (v:=zu (t.end_:Int)) rfl;have s8:=F6.cell 8 (v:=zi (t.ops:Int)) rfl;have z5:=F6.frozen 5;have f7:Fix (fun _=>none) w6 w5.heap.size (.cells #[.bool true,.bool false,.bool false,zi (t.id:Int),zi (t.level:Int),zi 1,zu (t.begin_:Int),zu (t.end_:Int),zi (t.ops:Int)] 42):=F6;have hb7:Below w0.heap.size w0 w6:=hb6;obtain⟨_,_,_,_,_,_,_,c10⟩:=H1.out w6 hb7;have q0:=f7.cell 0 (v:=.bool true) rfl;have q1:=f7.cell 1 (v:=.bool false) rfl;have q2:=f7.cell 2 (v:=.bool false) rfl;have q3:=f7.cell 3 (v:=zi (t.id:Int)) rfl;have q4:=f7.cell 4 (v:=zi (t.level:Int)) rfl;have q5:=f7.cell 5 (v:=zi 1) rfl;have q6:=f7.cell 6 (v:=zu (t.begin_:Int)) rfl;have q7:=f7.cell 7 (v:=zu (t.end_:Int)) rfl;have q8:=f7.cell 8 (v:=zi (t.ops:Int)) rfl;have q1z:=f7.frozen 1;have q2z:=f7.frozen 2;have H7:=zH (zA f7 hb7);clear F6 hb6 f7 hb7 hw6;go_wp2_with fail;generalize hw7:w6=w7 at*;clear s0 s1 s2 s3 s4 s5 s6 s7 s8 z5
 go_region
 generalize hw8:World.drew _=w8;have f8:Fix (fun _=>none) w8 w5.heap.size (.cells #[.bool true,.bool true,.bool c.waits,zi (t.id:Int),zi (t.level:Int),zi 1,zu (t.begin_:Int),zu (t.end_:Int),zi (t.ops:Int)] 42):=⟨rfl,by rw[←hw8];have h:=heap_setCell_same (heap_setCell_same H7.out.1.2 1 (.bool true)) 2 (.bool c.waits);show ((w7.setCell ⟨_,1,none⟩ _).setCell ⟨_,2,none⟩ _).heap[_]? =_;simpa using h⟩
 have hb8:Below w0.heap.size w0 w8:=by rw[←hw8];exact ((H7.out.2.setCell HB6.out.2.2 _).setCell HB6.out.2.2 _).drew
 clear q0 q1 q2 q3 q4 q5 q6 q7 q8 q1z q2z c10;have r0:=f8.cell 0 (v:=.bool true) rfl;have r1:=f8.cell 1 (v:=.bool true) rfl;have r2:=f8.cell 2 (v:=.bool c.waits) rfl;have r3:=f8.cell 3 (v:=zi (t.id:Int)) rfl;have r4:=f8.cell 4 (v:=zi (t.level:Int)) rfl;have r5:=f8.cell 5 (v:=zi 1) rfl;have r6:=f8.cell 6 (v:=zu (t.begin_:Int)) rfl;have r7:=f8.cell 7 (v:=zu (t.end_:Int)) rfl;have r8:=f8.cell 8 (v:=zi (t.ops:Int)) rfl;have HTH:=zH (there_of (hb8.block w.heap.size HZ0.out.2.2 |>.trans HZ0.out.1));have hfin:=heap_setCells9 (hb8.block w.heap.size HZ0.out.2.2 |>.trans HZ0.out.1) (.bool true) (.bool true) (.bool c.waits) (zi (t.id:Int)) (zi (t.level:Int)) (zi 1) (zu (t.begin_:Int)) (zu (t.end_:Int)) (zi (t.ops:Int));have HFN:=zH hfin;have HBL:=zH (Below.setCells9 (HZ0.out.2.1.trans (hb8.mono (Nat.le_of_lt HZ0.out.2.2))) (Nat.le_refl _) (.bool true) (.bool true) (.bool c.waits) (zi (t.id:Int)) (zi (t.level:Int)) (zi 1) (zu (t.begin_:Int)) (zu (t.end_:Int)) (zi (t.ops:Int)));clear hfin;clear hb8 hw8 f8;go_wp2_with (refine wpList_store_mid rfl 42 (.tmp 4) (.tmp 68) rfl w.heap.size 0 #[.bool true,.bool true,.bool c.waits,zi (t.id:Int),zi (t.level:Int),zi 1,zu (t.begin_:Int),zu (t.end_:Int),zi (t.ops:Int)] rfl rfl HTH.out (by kernel_rfl) (by simp[Value.oneCell']) ?_;generalize hws:World.setCells _ _ _ _=ws);have hbut:Below w.heap.size w (w8.setCells w.heap.size 0 [.bool true,.bool true,.bool c.waits,zi (t.id:Int),zi (t.level:Int),zi 1,zu (t.begin_:Int),zu (t.end_:Int),zi (t.ops:Int)]):=HBL.out;have hfin:=HFN.out;rw[show w8.setCells w.heap.size 0 [.bool true,.bool true,.bool c.waits,zi (t.id:Int),zi (t.level:Int),zi 1,zu (t.begin_:Int),zu (t.end_:Int),zi (t.ops:Int)]=ws from hws] at hbut hfin
 (try simp only[Exit.inBlock,Exit.then])
 refine bodyPost_ret (results_cell_row rfl _ _ w.heap.size 42 #[.bool true,.bool true,.bool c.waits,zi (t.id:Int),zi (t.level:Int),zi 1,zu (t.begin_:Int),zu (t.end_:Int),zi (t.ops:Int)] _ _ rfl hfin Tryz.underlying42 rfl (by kernel_rfl)) rfl ?_;exact⟨rfl,hbut⟩
theorem status_10 {A:Book} {σ:St} {w:World} (hL:Live A σ w) (s:Nat) (hs:s<8) (t:Txn) (ht:σ.txns.getD s none=some t) (he:0<t.end_) (hc:σ.calls.getD s none=none):
 Calls Tryz.prog 10 #[.pointer (some ⟨A.be,0,none⟩),zi (s:Int)] w fun e w'=>e=.returned (.agg #[.bool true,.bool false,.bool false,zi (t.id:Int),zi (t.level:Int),zi 2,zu (t.begin_:Int),zu (t.end_:Int),zi (t.ops:Int)])∧Below w.heap.size w w':=by
 have hR:=hL.rep;have b1:(s:Int)<8:=by omega
 have b0:(0:Int)≤(s:Int):=by omega
 have hsok:=zH (sessionOk s hs);have r1:=hR.alloc (.cells #[.bool false,.bool false,.bool false,zi 0,zi 0,zi 0,zu 0,zu 0,zi 0] 42);have H1:Hid (∀ w',Below (w.alloc (.cells #[.bool false,.bool false,.bool false,zi 0,zi 0,zi 0,zu 0,zu 0,zi 0] 42)).heap.size (w.alloc (.cells #[.bool false,.bool false,.bool false,zi 0,zi 0,zi 0,zu 0,zu 0,zi 0] 42)) w'→w'.cell? ⟨A.be,5+s,none⟩=some (.pointer (some ⟨A.bt s,0,none⟩))∧w'.cell? ⟨A.be,13+s,none⟩=some (.pointer none)∧w'.cell? ⟨A.bt s,0,none⟩=some (zi (t.id:Int))∧w'.cell? ⟨A.bt s,1,none⟩=some (zi (t.level:Int))∧w'.cell? ⟨A.bt s,3,none⟩=some (zu (t.begin_:Int))∧w'.cell? ⟨A.bt s,4,none⟩=some (zu (t.end_:Int))∧w'.cell? ⟨A.bt s,5,none⟩=some (zi (t.ops:Int))):=by
  intro w' hb;have r:=r1.below hb;have h5:=r.eng (5+s) (engCs_txn A σ hs);rw[show A.tp σ s=.pointer (some ⟨A.bt s,0,none⟩) by unfold Book.tp;rw[ht]] at h5;have h13:=r.eng (13+s) (engCs_call A σ hs);rw[hL.idle s hs hc] at h13;exact⟨h5,h13,r.txn ht 0 rfl,r.txn ht 1 rfl,r.txn ht 3 rfl,r.txn ht 4 rfl,r.txn ht 5 rfl⟩
 obtain⟨v5,v13,t0,t1,t3,t4,t5⟩:=H1.out _ (Below.refl _ _);obtain⟨fe1,fe2,fe3,fe4,fe5⟩:=zeF (x:=t.end_) (c:=0) (ci:=0) (by omega);have ff1:decide ((0:Int)<(t.end_:Int))=true:=by simp<;>omega
 have ff2:((0:Int)<(t.end_:Int))=True:=by simp<;>omega
 have ff3:(0<t.end_)=True:=by simp<;>omega
 have ff4:decide (0<t.end_)=true:=by simp<;>omega
 clear hL hR hs ht r1 he;go_enter Tryz.func10,Tryz.ntmps10;go_wp2_with (go_at_call 40;refine (hsok.out _).mono ?_;rintro e w' ⟨rfl,rfl⟩);have HZ0:Hid ((w.alloc (.cells #[.bool false,.bool false,.bool false,zi 0,zi 0,zi 0,zu 0,zu 0,zi 0] 42)).heap[w.heap.size]? =some (.cells #[.bool false,.bool false,.bool false,zi 0,zi 0,zi 0,zu 0,zu 0,zi 0] 42)∧Below w.heap.size w (w.alloc (.cells #[.bool false,.bool false,.bool false,zi 0,zi 0,zi 0,zu 0,zu 0,zi 0] 42))∧w.heap.size<(w.alloc (.cells #[.bool false,.bool false,.bool false,zi 0,zi 0,zi 0,zu 0,zu 0,zi 0] 42)).heap.size):=⟨heap_alloc_new w _,(Below.refl _ w).alloc (Nat.le_refl _) _,by simp⟩
 clear v5 v13 t0 t1 t3 t4 t5;generalize hw0:w.alloc _=w0 at*;obtain⟨v5,v13,t0,t1,t3,t4,t5⟩:=H1.out w0 (Below.refl _ _)
 go_quiet (fail)
 clear v5 v13 t0 t1 t3 t4 t5;generalize hw5:w0.drewN _=w5;have hb5:Below w0.heap.size w0 w5:=by rw[←hw5];exact⟨rfl,rfl,rfl,Nat.le_refl _,fun _ _=>rfl⟩
 obtain⟨v5,v13,t0,t1,t3,t4,t5⟩:=H1.out w5 hb5;obtain⟨_,_,y0,y1,y3,y4,y5⟩:=H1.out (w5.alloc (.cells #[.bool false,.bool false,.bool false,zi 0,zi 0,zi 0,zu 0,zu 0,zi 0] 42)) (hb5.alloc hb5.size _);go_wp2_with fail
 go_region
 generalize hw6:World.drew _=w6;have F6:Fix (fun _=>none) w6 w5.heap.size (.cells #[.bool true,.bool false,.bool false,zi (t.id:Int),zi (t.level:Int),zi 1,zu (t.begin_:Int),zu (t.end_:Int),zi (t.ops:Int)] 42):=⟨rfl,by rw[←hw6];exact heap_alloc_new w5 _⟩
 have hb6:Below w0.heap.size w0 w6:=by rw[←hw6];exact (hb5.alloc hb5.size _).drew
 have hz6:w5.heap.size<w6.heap.size:=lt_of F6.2;have HB6:=zH (zA hb6 (zA F6 hb5.size));obtain⟨_,_,_,_,_,u4,_⟩:=H1.out w6 hb6;clear v5 v13 t0 t1 t3 t4 t5 y0 y1 y3 y4 y5;have s0:=F6.cell 0 (v:=.bool true) rfl;have s1:=F6.cell 1 (v:=.bool false) rfl;have s2:=F6.cell 2 (v:=.bool false) rfl;have s3:=F6.cell 3 (v:=zi (t.id:Int)) rfl;have s4:=F6.cell 4 (v:=zi (t.level:Int)) rfl;have s5:=F6.cell 5 (v:=zi 1) rfl;have s6:=F6.cell 6 (v:=zu (t.begin_:Int)) rfl;have s7:=F6.cell 7 (v:=zu (t.end_:Int)) rfl;have s8:=F6.cell 8 (v:=zi (t.ops:Int)) rfl;have z5:=F6.frozen 5;have f7:Fix (fun _=>none) (w6.setCell ⟨w5.heap.size,5,none⟩ (zi 2)) w5.heap.size (.cells #[.bool true,.bool false,.bool false,zi (t.id:Int),zi (t.level:Int),zi 2,zu (t.begin_:Int),zu (t.end_:Int),zi (t.ops:Int)] 42):=⟨rfl,by have h:=heap_setCell_same F6.2 5 (zi 2);simpa using h⟩
 have hb7:Below w0.heap.size w0 (w6.setCell ⟨w5.heap.size,5,none⟩ (zi 2)):=hb6.setCell (HB6.out.2.2) _;have hb8:Below w0.heap.size w0 (w6.setCell ⟨w5.heap.size,5,none⟩ (zi 2)):=hb7;have HTH:=zH (there_of (hb8.block w.heap.size HZ0.out.2.2 |>.trans HZ0.out.1));have hfin:=heap_setCells9 (hb8.block w.heap.size HZ0.out.2.2 |>.trans HZ0.out.1) (.bool true) (.bool false) (.bool false) (zi (t.id:Int)) (zi (t.level:Int)) (zi 2) (zu (t.begin_:Int)) (zu (t.end_:Int)) (zi (t.ops:Int));have HFN:=zH hfin;have HBL:=zH (Below.setCells9 (HZ0.out.2.1.trans (hb8.mono (Nat.le_of_lt HZ0.out.2.2))) (Nat.le_refl _) (.bool true) (.bool false) (.bool false) (zi (t.id:Int)) (zi (t.level:Int)) (zi 2) (zu (t.begin_:Int)) (zu (t.end_:Int)) (zi (t.ops:Int)));clear hfin;clear hb8 F6 hb6 f7 hb7 hw6;go_wp2_with (refine wpList_store_mid rfl 42 (.tmp 4) (.tmp 68) rfl w.heap.size 0 #[.bool true,.bool false,.bool false,zi (t.id:Int),zi (t.level:Int),zi 2,zu (t.begin_:Int),zu (t.end_:Int),zi (t.ops:Int)] rfl rfl HTH.out (by kernel_rfl) (by simp[Value.oneCell']) ?_;generalize hws:World.setCells _ _ _ _=ws);have hbut:Below w.heap.size w ((w6.setCell ⟨w5.heap.size,5,none⟩ (zi 2)).setCells w.heap.size 0 [.bool true,.bool false,.bool false,zi (t.id:Int),zi (t.level:Int),zi 2,zu (t.begin_:Int),zu (t.end_:Int),zi (t.ops:Int)]):=HBL.out;have hfin:=HFN.out;rw[show (w6.setCell ⟨w5.heap.size,5,none⟩ (zi 2)).setCells w.heap.size 0 [.bool true,.bool false,.bool false,zi (t.id:Int),zi (t.level:Int),zi 2,zu (t.begin_:Int),zu (t.end_:Int),zi (t.ops:Int)]=ws from hws] at hbut hfin
 (try simp only[Exit.inBlock,Exit.then])
 refine bodyPost_ret (results_cell_row rfl _ _ w.heap.size 42 #[.bool true,.bool false,.bool false,zi (t.id:Int),zi (t.level:Int),zi 2,zu (t.begin_:Int),zu (t.end_:Int),zi (t.ops:Int)] _ _ rfl hfin Tryz.underlying42 rfl (by kernel_rfl)) rfl ?_;exact⟨rfl,hbut⟩
theorem status_11 {A:Book} {σ:St} {w:World} (hL:Live A σ w) (s:Nat) (hs:s<8) (t:Txn) (ht:σ.txns.getD s none=some t) (he:0<t.end_) (c:Cal) (hc:σ.calls.getD s none=some c):
 Calls Tryz.prog 10 #[.pointer (some ⟨A.be,0,none⟩),zi (s:Int)] w fun e w'=>e=.returned (.agg #[.bool true,.bool true,.bool c.waits,zi (t.id:Int),zi (t.level:Int),zi 2,zu (t.begin_:Int),zu (t.end_:Int),zi (t.ops:Int)])∧Below w.heap.size w w':=by
 have hR:=hL.rep;have b1:(s:Int)<8:=by omega
 have b0:(0:Int)≤(s:Int):=by omega
 have hsok:=zH (sessionOk s hs);have r1:=hR.alloc (.cells #[.bool false,.bool false,.bool false,zi 0,zi 0,zi 0,zu 0,zu 0,zi 0] 42);have H1:Hid (∀ w',Below (w.alloc (.cells #[.bool false,.bool false,.bool false,zi 0,zi 0,zi 0,zu 0,zu 0,zi 0] 42)).heap.size (w.alloc (.cells #[.bool false,.bool false,.bool false,zi 0,zi 0,zi 0,zu 0,zu 0,zi 0] 42)) w'→w'.cell? ⟨A.be,5+s,none⟩=some (.pointer (some ⟨A.bt s,0,none⟩))∧w'.cell? ⟨A.be,13+s,none⟩=some (.pointer (some ⟨A.bc s,0,none⟩))∧w'.cell? ⟨A.bt s,0,none⟩=some (zi (t.id:Int))∧w'.cell? ⟨A.bt s,1,none⟩=some (zi (t.level:Int))∧w'.cell? ⟨A.bt s,3,none⟩=some (zu (t.begin_:Int))∧w'.cell? ⟨A.bt s,4,none⟩=some (zu (t.end_:Int))∧w'.cell? ⟨A.bt s,5,none⟩=some (zi (t.ops:Int))∧w'.cell? ⟨A.bc s,10,none⟩=some (.bool c.waits)):=by
  intro w' hb;have r:=r1.below hb;have h5:=r.eng (5+s) (engCs_txn A σ hs);rw[show A.tp σ s=.pointer (some ⟨A.bt s,0,none⟩) by unfold Book.tp;rw[ht]] at h5;have h13:=r.eng (13+s) (engCs_call A σ hs);rw[(hL.call s hs c hc).1,show ptr (A.bc s)=.pointer (some ⟨A.bc s,0,none⟩) from rfl] at h13;exact⟨h5,h13,r.txn ht 0 rfl,r.txn ht 1 rfl,r.txn ht 3 rfl,r.txn ht 4 rfl,r.txn ht 5 rfl,r.call hc 10 rfl⟩
 obtain⟨v5,v13,t0,t1,t3,t4,t5,c10⟩:=H1.out _ (Below.refl _ _);obtain⟨fe1,fe2,fe3,fe4,fe5⟩:=zeF (x:=t.end_) (c:=0) (ci:=0) (by omega);have ff1:decide ((0:Int)<(t.end_:Int))=true:=by simp<;>omega
 have ff2:((0:Int)<(t.end_:Int))=True:=by simp<;>omega
 have ff3:(0<t.end_)=True:=by simp<;>omega
 have ff4:decide (0<t.end_)=true:=by simp<;>omega
 clear hL hR hs ht r1 he;go_enter Tryz.func10,Tryz.ntmps10;go_wp2_with (go_at_call 40;refine (hsok.out _).mono ?_;rintro e w' ⟨rfl,rfl⟩);have HZ0:Hid ((w.alloc (.cells #[.bool false,.bool false,.bool false,zi 0,zi 0,zi 0,zu 0,zu 0,zi 0] 42)).heap[w.heap.size]? =some (.cells #[.bool false,.bool false,.bool false,zi 0,zi 0,zi 0,zu 0,zu 0,zi 0] 42)∧Below w.heap.size w (w.alloc (.cells #[.bool false,.bool false,.bool false,zi 0,zi 0,zi 0,zu 0,zu 0,zi 0] 42))∧w.heap.size<(w.alloc (.cells #[.bool false,.bool false,.bool false,zi 0,zi 0,zi 0,zu 0,zu 0,zi 0] 42)).heap.size):=⟨heap_alloc_new w _,(Below.refl _ w).alloc (Nat.le_refl _) _,by simp⟩
 clear v5 v13 t0 t1 t3 t4 t5 c10;generalize hw0:w.alloc _=w0 at*;obtain⟨v5,v13,t0,t1,t3,t4,t5,c10⟩:=H1.out w0 (Below.refl _ _)
 go_quiet (fail)
 clear v5 v13 t0 t1 t3 t4 t5 c10;generalize hw5:w0.drewN _=w5;have hb5:Below w0.heap.size w0 w5:=by rw[←hw5];exact⟨rfl,rfl,rfl,Nat.le_refl _,fun _ _=>rfl⟩
 obtain⟨v5,v13,t0,t1,t3,t4,t5,c10⟩:=H1.out w5 hb5;obtain⟨_,_,y0,y1,y3,y4,y5,y10⟩:=H1.out (w5.alloc (.cells #[.bool false,.bool false,.bool false,zi 0,zi 0,zi 0,zu 0,zu 0,zi 0] 42)) (hb5.alloc hb5.size _);go_wp2_with fail
 go_region
 generalize hw6:World.drew _=w6;have F6:Fix (fun _=>none) w6 w5.heap.size (.cells #[.bool true,.bool false,.bool false,zi (t.id:Int),zi (t.level:Int),zi 1,zu (t.begin_:Int),zu (t.end_:Int),zi (t.ops:Int)] 42):=⟨rfl,by rw[←hw6];exact heap_alloc_new w5 _⟩
 have hb6:Below w0.heap.size w0 w6:=by rw[←hw6];exact (hb5.alloc hb5.size _).drew
 have hz6:w5.heap.size<w6.heap.size:=lt_of F6.2;have HB6:=zH (zA hb6 (zA F6 hb5.size));obtain⟨_,_,_,_,_,u4,_,_⟩:=H1.out w6 hb6;clear v5 v13 t0 t1 t3 t4 t5 y0 y1 y3 y4 y5 c10 y10;have s0:=F6.cell 0 (v:=.bool true) rfl;have s1:=F6.cell 1 (v:=.bool false) rfl;have s2:=F6.cell 2 (v:=.bool false) rfl;have s3:=F6.cell 3 (v:=zi (t.id:Int)) rfl;have s4:=F6.cell 4 (v:=zi (t.level:Int)) rfl;have s5:=F6.cell 5 (v:=zi 1) rfl;have s6:=F6.cell 6 (v:=zu (t.begin_:Int)) rfl;have s7:=F6.cell 7 (v:=zu (t.end_:Int)) rfl;have s8:=F6.cell 8 (v:=zi (t.ops:Int)) rfl;have z5:=F6.frozen 5;have f7:Fix (fun _=>none) (w6.setCell ⟨w5.heap.size,5,none⟩ (zi 2)) w5.heap.size (.cells #[.bool true,.bool false,.bool false,zi (t.id:Int),zi (t.level:Int),zi 2,zu (t.begin_:Int),zu (t.end_:Int),zi (t.ops:Int)] 42):=⟨rfl,by have h:=heap_setCell_same F6.2 5 (zi 2);simpa using h⟩
 have hb7:Below w0.heap.size w0 (w6.setCell ⟨w5.heap.size,5,none⟩ (zi 2)):=hb6.setCell (HB6.out.2.2) _;obtain⟨_,_,_,_,_,_,_,c10⟩:=H1.out (w6.setCell ⟨w5.heap.size,5,none⟩ (zi 2)) hb7;have q0:=f7.cell 0 (v:=.bool true) rfl;have q1:=f7.cell 1 (v:=.bool false) rfl;have q2:=f7.cell 2 (v:=.bool false) rfl;have q3:=f7.cell 3 (v:=zi (t.id:Int)) rfl;have q4:=f7.cell 4 (v:=zi (t.level:Int)) rfl;have q5:=f7.cell 5 (v:=zi 2) rfl;have q6:=f7.cell 6 (v:=zu (t.begin_:Int)) rfl;have q7:=f7.cell 7 (v:=zu (t.end_:Int)) rfl;have q8:=f7.cell 8 (v:=zi (t.ops:Int)) rfl;have q1z:=f7.frozen 1;have q2z:=f7.frozen 2;have H7:=zH (zA f7 hb7);clear F6 hb6 f7 hb7 hw6;go_wp2_with fail;generalize hw7:World.setCell w6 _ _=w7 at*;clear s0 s1 s2 s3 s4 s5 s6 s7 s8 z5
 go_region
 generalize hw8:World.drew _=w8;have f8:Fix (fun _=>none) w8 w5.heap.size (.cells #[.bool true,.bool true,.bool c.waits,zi (t.id:Int),zi (t.level:Int),zi 2,zu (t.begin_:Int),zu (t.end_:Int),zi (t.ops:Int)] 42):=⟨rfl,by rw[←hw8];have h:=heap_setCell_same (heap_setCell_same H7.out.1.2 1 (.bool true)) 2 (.bool c.waits);show ((w7.setCell ⟨_,1,none⟩ _).setCell ⟨_,2,none⟩ _).heap[_]? =_;simpa using h⟩
 have hb8:Below w0.heap.size w0 w8:=by rw[←hw8];exact ((H7.out.2.setCell HB6.out.2.2 _).setCell HB6.out.2.2 _).drew
 clear q0 q1 q2 q3 q4 q5 q6 q7 q8 q1z q2z c10;have r0:=f8.cell 0 (v:=.bool true) rfl;have r1:=f8.cell 1 (v:=.bool true) rfl;have r2:=f8.cell 2 (v:=.bool c.waits) rfl;have r3:=f8.cell 3 (v:=zi (t.id:Int)) rfl;have r4:=f8.cell 4 (v:=zi (t.level:Int)) rfl;have r5:=f8.cell 5 (v:=zi 2) rfl;have r6:=f8.cell 6 (v:=zu (t.begin_:Int)) rfl;have r7:=f8.cell 7 (v:=zu (t.end_:Int)) rfl;have r8:=f8.cell 8 (v:=zi (t.ops:Int)) rfl;have HTH:=zH (there_of (hb8.block w.heap.size HZ0.out.2.2 |>.trans HZ0.out.1));have hfin:=heap_setCells9 (hb8.block w.heap.size HZ0.out.2.2 |>.trans HZ0.out.1) (.bool true) (.bool true) (.bool c.waits) (zi (t.id:Int)) (zi (t.level:Int)) (zi 2) (zu (t.begin_:Int)) (zu (t.end_:Int)) (zi (t.ops:Int));have HFN:=zH hfin;have HBL:=zH (Below.setCells9 (HZ0.out.2.1.trans (hb8.mono (Nat.le_of_lt HZ0.out.2.2))) (Nat.le_refl _) (.bool true) (.bool true) (.bool c.waits) (zi (t.id:Int)) (zi (t.level:Int)) (zi 2) (zu (t.begin_:Int)) (zu (t.end_:Int)) (zi (t.ops:Int)));clear hfin;clear hb8 hw8 f8;go_wp2_with (refine wpList_store_mid rfl 42 (.tmp 4) (.tmp 68) rfl w.heap.size 0 #[.bool true,.bool true,.bool c.waits,zi (t.id:Int),zi (t.level:Int),zi 2,zu (t.begin_:Int),zu (t.end_:Int),zi (t.ops:Int)] rfl rfl HTH.out (by kernel_rfl) (by simp[Value.oneCell']) ?_;generalize hws:World.setCells _ _ _ _=ws);have hbut:Below w.heap.size w (w8.setCells w.heap.size 0 [.bool true,.bool true,.bool c.waits,zi (t.id:Int),zi (t.level:Int),zi 2,zu (t.begin_:Int),zu (t.end_:Int),zi (t.ops:Int)]):=HBL.out;have hfin:=HFN.out;rw[show w8.setCells w.heap.size 0 [.bool true,.bool true,.bool c.waits,zi (t.id:Int),zi (t.level:Int),zi 2,zu (t.begin_:Int),zu (t.end_:Int),zi (t.ops:Int)]=ws from hws] at hbut hfin
 (try simp only[Exit.inBlock,Exit.then])
 refine bodyPost_ret (results_cell_row rfl _ _ w.heap.size 42 #[.bool true,.bool true,.bool c.waits,zi (t.id:Int),zi (t.level:Int),zi 2,zu (t.begin_:Int),zu (t.end_:Int),zi (t.ops:Int)] _ _ rfl hfin Tryz.underlying42 rfl (by kernel_rfl)) rfl ?_;exact⟨rfl,hbut⟩
theorem status_any {A:Book} {σ:St} {w:World} (hL:Live A σ w) (s:Nat) (hs:s<8):
 Calls Tryz.prog 10 #[.pointer (some ⟨A.be,0,none⟩),zi (s:Int)] w fun e w'=>e=.returned (.agg (statusCs (σ.status s)))∧Below w.heap.size w w':=by
 unfold St.status
 cases ht:σ.txns.getD s none with
 |none=>exact status_none hL.rep s hs ht
 |some t=>
  by_cases he:0<t.end_
  · cases hc:σ.calls.getD s none with
    |none=>
     have h:=status_10 hL s hs t ht he hc;simp only[if_pos he];exact h
    |some c=>
     have h:=status_11 hL s hs t ht he c hc;simp only[if_pos he];exact h
  · cases hc:σ.calls.getD s none with
    |none=>
     have h:=status_00 hL s hs t ht (by omega) hc;simp only[if_neg he];exact h
    |some c=>
     have h:=status_01 hL s hs t ht (by omega) c hc;simp only[if_neg he];exact h
def Said (A:Book) (w:World) (σ':St) (v:Value):Ending→World→Prop:=fun e w'=>e=.returned v∧∃ A',Live A' σ' w'∧Grow A.L w A'.L w'∧A'.be=A.be
variable {A:Book} {σ:St} {w:World}
def BegunNot (A:Book) (w:World) (σ':St) (er:Nat):Ending→World→Prop:=fun e w'=>∃ A',e=.returned (.tuple #[zi 0,zi (er:Int)])∧Live A' σ' w'∧Grow A.L w A'.L w'∧A'.be=A.be
theorem Live.tick {A:Book} {σ:St} {w w':World} (hL:Live A σ w) (r:Rep A σ.tick w') (g:Grow A.L w A.L w'):Live A σ.tick w':=
 ⟨r,hL.mp,hL.mt,fun s h c hc=>let ⟨e1,k,e2,e3⟩:=hL.call s h c hc;⟨e1,k,e2,(show KRep (kp A σ s) A.L w' (A.vnext s) k from e3.grow g)⟩,hL.idle,hL.sx.keep rfl ⟨rfl,rfl⟩ g⟩
theorem begin_over (hL:Live A σ w) (s:Nat) (hs:s<8) (level:Nat) (hl1:1≤level) (hl2:level≤3) (hn:σ.txns.getD s none=none) (hmd:σ.made<2000) (hx:σ.word 0<18446744073709551616) (hlim:σ.limit≤timeOf (σ.word 0)) (hcnt:σ.count<3000000000000000000):
 Calls Tryz.prog 9 #[.pointer (some ⟨A.be,0,none⟩),zi (s:Int),zi (level:Int)] w (BegunNot A w σ.tick 16):=by
 have hR:=hL.rep;have b1:(s:Int)<8:=by omega
 have b0:(0:Int)≤(s:Int):=by omega
 have hsok:=zH (sessionOk s hs);have hlev:=zH (levelOk level hl1 hl2);have e2:=hR.z2;have v5:=hR.eng (5+s) (engCs_txn A σ hs);rw[show A.tp σ s=.pointer none by unfold Book.tp;rw[hn]] at v5;have v21:w.cell? ⟨A.be,21,none⟩=some (zi (σ.made:Int)):=hR.eng 21 rfl;have d1:decide ((2000:Int)≤(σ.made:Int))=false:=by simp;omega
 have d2:((2000:Int)≤(σ.made:Int))=False:=by simp;omega
 have d3:(2000≤σ.made)=False:=by simp;omega
 have l1:decide ((σ.limit:Int)≤(timeOf (σ.word 0):Int))=true:=by simp;omega
 have l2:((σ.limit:Int)≤(timeOf (σ.word 0):Int))=True:=by simp;omega
 have l3:(σ.limit≤timeOf (σ.word 0))=True:=by simp;omega
 have HLo:=zH (load_i hR 0 0 rfl (by rw[hR.nw];omega) (by omega));have HDr:=zH (fun w'=>drawn_any (σ.word 0) hx w');have H1:Hid (∀ w1,Rep A σ.tick w1→Grow A.L w A.L w1→w1.cell? ⟨A.be,1,none⟩=some (zu (σ.limit:Int))):=fun w1 r g=>r.eng 1 rfl
 have HL0:=zH hL;clear hL hs hl1 hl2 hn hmd hx hlim hcnt hR;go_enter Tryz.func9,Tryz.ntmps9;go_wp2_with (first|(go_at_call 40;refine (hsok.out _).mono ?_;rintro e w' ⟨rfl,rfl⟩)|(go_at_call 41;refine (hlev.out _).mono ?_;rintro e w' ⟨rfl,rfl⟩)|(go_at_call 42;refine HLo.out.mono ?_;rintro e w1 ⟨rfl,q1,q2⟩;have v1:=H1.out w1 q1 q2;have HQ1:=zH (zA q1 q2);clear q1 q2)|(go_at_call 43;refine (HDr.out _).mono ?_;rintro e w' ⟨rfl,rfl⟩))
 go_ret2
 exact⟨A,rfl,HL0.out.tick HQ1.out.1 HQ1.out.2,HQ1.out.2,rfl⟩
theorem begin_taken (hL:Live A σ w) (s:Nat) (hs:s<8) (level:Nat) (hl1:1≤level) (hl2:level≤3) (t:Txn) (ht:σ.txns.getD s none=some t):
 Calls Tryz.prog 9 #[.pointer (some ⟨A.be,0,none⟩),zi (s:Int),zi (level:Int)] w (BegunNot A w σ 9):=by
 have hR:=hL.rep;have b1:(s:Int)<8:=by omega
 have b0:(0:Int)≤(s:Int):=by omega
 have hsok:=zH (sessionOk s hs);have hlev:=zH (levelOk level hl1 hl2);have v5:=hR.eng (5+s) (engCs_txn A σ hs);rw[show A.tp σ s=.pointer (some ⟨A.bt s,0,none⟩) by unfold Book.tp;rw[ht]] at v5;have HL0:=zH hL;clear hL hs hl1 hl2 ht hR;go_enter Tryz.func9,Tryz.ntmps9;go_wp2_with (first|(go_at_call 40;refine (hsok.out _).mono ?_;rintro e w' ⟨rfl,rfl⟩)|(go_at_call 41;refine (hlev.out _).mono ?_;rintro e w' ⟨rfl,rfl⟩))
 go_ret2
 exact⟨A,rfl,HL0.out,Grow.refl _ _,rfl⟩
def runOne (σ:St) (s:Nat):Option (St×Bool):=
 if (σ.status s).live=false then some (σ,false)
 else if (σ.status s).busy=false then (match issueOk σ s ⟨6,0,0,0⟩ with|some σ1=>some (σ1,false)|none=>none)
 else match oneStep σ s with|some (σ',_,_)=>some (σ',true)|none=>none
theorem one_any (hL:Live A σ w) (s:Nat) (hs:s<8) (σ2:St) (b:Bool) (hrun:runOne σ s=some (σ2,b)):
 Calls Tryz.prog 93 #[.pointer (some ⟨A.be,0,none⟩),zi (s:Int)] w (Said A w σ2 (.bool b)):=by
 have HSt:=zH (status_any hL s hs);have HL2:Hid (∀ w1,Below w.heap.size w w1→Live A σ (w1.alloc (.cells (statusCs (σ.status s)) 42))∧Grow A.L w A.L (w1.alloc (.cells (statusCs (σ.status s)) 42))):=fun w1 hb=>⟨(hL.below hb).alloc _,(Grow.below hb).trans (Grow.alloc _ _ _)⟩
 have HSTEP:Hid (∀ σ' kd r' w1,oneStep σ s=some (σ',kd,r')→Below w.heap.size w w1→Calls Tryz.prog 34 #[.pointer (some ⟨A.be,0,none⟩),zi (s:Int)] (w1.alloc (.cells (statusCs (σ.status s)) 42)) (Stepped A (w1.alloc (.cells (statusCs (σ.status s)) 42)) σ' (kd:Int) r')):=fun σ' kd r' w1 h hb=>step_calls ((hL.below hb).alloc (.cells (statusCs (σ.status s)) 42)) hs h
 have HISS:Hid (∀ σ1 w1,issueOk σ s ⟨6,0,0,0⟩=some σ1→Below w.heap.size w w1→Calls Tryz.prog 33 #[.pointer (some ⟨A.be,0,none⟩),zi (s:Int),.agg #[zi 6,zi 0,zi 0,zi 0]] (w1.alloc (.cells (statusCs (σ.status s)) 42)) (Issued A (w1.alloc (.cells (statusCs (σ.status s)) 42)) σ1 0)):=fun σ1 w1 h hb=>issue_to hs h A _ ((hL.below hb).alloc (.cells (statusCs (σ.status s)) 42))
 unfold runOne at hrun;clear hL hs;unfold statusCs at HSt HL2 HSTEP HISS;generalize σ.status s=x at*
 cases hlv:x.live with
 |false=>
  rw[hlv] at HSt HL2;rw[if_pos hlv] at hrun;simp only[Option.some.injEq,Prod.mk.injEq] at hrun;obtain⟨rfl,rfl⟩:=hrun;clear hlv HSTEP HISS;go_enter Tryz.func93,Tryz.ntmps93;go_wp2_with (go_at_call 10;refine HSt.out.mono ?_;rintro e w1 ⟨rfl,hb⟩;have HB1:=zH hb;clear hb);go_ret;obtain⟨q1,q2⟩:=HL2.out w1 HB1.out;exact⟨rfl,A,q1,q2,rfl⟩
 |true=>
  rw[if_neg (by simp[hlv])] at hrun;rw[hlv] at HSt HL2 HSTEP HISS;clear hlv
  cases hbu:x.busy with
  |false=>
   rw[hbu] at HSt HL2 HISS;rw[if_pos hbu] at hrun
   split at hrun
   · rename_i σ1 hi
     simp only[Option.some.injEq,Prod.mk.injEq] at hrun;obtain⟨rfl,rfl⟩:=hrun;have HI:=zH (fun w1 hb=>HISS.out σ1 w1 hi hb);clear hbu HSTEP HISS hi;go_enter Tryz.func93,Tryz.ntmps93;go_wp2_with (first|(go_at_call 10;refine HSt.out.mono ?_;rintro e w1 ⟨rfl,hb⟩;have HB1:=zH hb;clear hb)|(go_at_call 33;refine (HI.out w1 HB1.out).mono ?_;rintro e w2 ⟨A2,rfl,q1,q2,q3⟩;have H2:=zH (zA q1 (zA q2 q3));clear q1 q2 q3));go_ret;obtain⟨q1,q2,q3⟩:=H2.out;exact⟨rfl,A2,q1,(HL2.out w1 HB1.out).2.trans q2,q3⟩
   · cases hrun
  |true=>
   rw[hbu] at HSt HL2 HSTEP;rw[if_neg (by simp[hbu])] at hrun
   split at hrun
   · rename_i σ' kd r' hstep
     simp only[Option.some.injEq,Prod.mk.injEq] at hrun;obtain⟨rfl,rfl⟩:=hrun;have HST:=zH (fun w1 hb=>HSTEP.out σ' kd r' w1 hstep hb);clear hbu HSTEP HISS hstep;go_enter Tryz.func93,Tryz.ntmps93;go_wp2_with (first|(go_at_call 10;refine HSt.out.mono ?_;rintro e w1 ⟨rfl,hb⟩;have HB1:=zH hb;clear hb)|(go_at_call 34;refine (HST.out w1 HB1.out).mono ?_;rintro e w2 ⟨A2,vp,rfl,q1,q2,q3,q4⟩;have H2:=zH (zA q2 (zA q3 q4));clear q1 q2 q3 q4));go_ret;obtain⟨q1,q2,q3⟩:=H2.out;exact⟨rfl,A2,q1,(HL2.out w1 HB1.out).2.trans q2,q3⟩
   · cases hrun
end Go.Proofs.YthicolbbmjfkfaaGreat.Em
