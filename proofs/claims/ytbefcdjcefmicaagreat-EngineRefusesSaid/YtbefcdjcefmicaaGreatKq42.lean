import Derived.Lib.AppendZerosOnto
import Derived.Test.YtbefcdjcefmicaaGreatKq39
import Derived.Test.YtbefcdjcefmicaaGreatKq40
import Derived.Test.YtbefcdjcefmicaaGreatKq41
namespace Go.Proofs.YtbefcdjcefmicaaGreat.Em
open Go.ChangeShapes Go.WideShapes Go.ChangeAt Go.RowKit En
set_option linter.unusedVariables false
set_option linter.unusedSimpArgs false
set_option maxRecDepth 100000
set_option maxHeartbeats 1600000
def issueSt (σ:St) (s:Nat) (o:En.Op) (t:Txn):St:=if opEnds o then (({σ with seq:=σ.seq+1}:St).setC s (callOf o (σ.seq+1))) else (({(σ.setT s {t with ops:=t.ops+1}) with seq:=σ.seq+1}:St).setC s (callOf o (σ.seq+1)))
def issueOk (σ:St) (s:Nat) (o:En.Op):Option St:=
 match σ.txns.getD s none with
 |some t=>
  if opOk o=true∧(σ.calls.getD s none).isNone=true∧(t.ops<12∨(opEnds o=true∧t.ops<1000000))∧σ.seq<4000000000000000000∧s<σ.calls.length∧s<σ.txns.length∧okFirst (issueSt σ s o t) s=true then
   match (issueSt σ s o t).first s with
   |(σ4,k)=>
    match σ4.calls.getD s none with
    |some c4=>if okOthers σ σ4 s=true then some (σ4.setC s {c4 with k:=some k}) else none
    |none=>none
  else none
 |none=>none
theorem setC_at {σ:St} {s:Nat} (c:Cal) (h:s<σ.calls.length):(σ.setC s c).calls.getD s none=some c:=by
 unfold St.setC;simp[List.getD_eq_getElem?_getD,List.getElem?_set,h]
theorem setT_at {σ:St} {s:Nat} (t:Txn) (h:s<σ.txns.length):(σ.setT s t).txns.getD s none=some t:=by
 unfold St.setT;simp[List.getD_eq_getElem?_getD,List.getElem?_set,h]
theorem issue_to {σ σ1:St} {s:Nat} {o:En.Op} (hs:s<8) (h:issueOk σ s o=some σ1):IssueTo σ s o σ1 0:=by
 intro A w hL;unfold issueOk at h
 split at h
 · rename_i t ht
   split at h
   · rename_i hh
     obtain⟨ho,hn,hop,hsq,hcl,htl,hof⟩:=hh;have hn':σ.calls.getD s none=none:=by simpa using hn
     split at h
     rename_i σ4 k hf
     split at h
     · rename_i c4 hc4
       split at h
       · rename_i hoth
         obtain rfl:=Option.some.inj h;have hcq:=okOthers_iff hoth;unfold issueSt at hof hf
         cases he:opEnds o with
         |true=>
          rw[he] at hof hf;simp only[if_true] at hof hf;exact issue_ends hL s hs t ht o ho he hn' (by omega) hsq (firstTo (t:=t) ht (setC_at _ hcl) hof) σ4 k hf c4 hc4 hcq
         |false=>
          rw[he] at hof hf;simp only[Bool.false_eq_true,if_false] at hof hf;exact issue_other hL s hs t ht o ho he hn' (hop.resolve_right (fun h=>by rw[he] at h;cases h.1)) hsq (firstTo (t:={t with ops:=t.ops+1}) (setT_at _ htl) (setC_at _ hcl) hof) σ4 k hf c4 hc4 hcq
       · cases h
     · cases h
   · cases h
 · cases h
def BeginTo (σ:St) (s level:Nat) (σ1:St) (id:Nat):Prop:=∀ A w,Live A σ w→Calls Tryz.prog 41 #[.pointer (some ⟨A.be,0,none⟩),zi (s:Int),zi (level:Int)] w (Begun A w σ1 id)
def beginSt (σ:St) (s level:Nat) (σ2:St):St:=
 ((((({σ2 with made:=σ.made+1}:St).cas 0 (σ.word 0) (clockW (timeOf (σ.word 0)+1) 0)).put (σ.place (σ.made+1)) (pack 1 0)).put (1+s) (timeOf (σ.word 0)+1)).setT s (txnOf (σ.made+1) level (timeOf (σ.word 0)+1))).event {kind:=1,t:=σ.made+1,n:=timeOf (σ.word 0)+1,op:=⟨0,0,0,level⟩}
def beginOk (σ:St) (s level:Nat):Option (St×Nat):=
 if 1≤level∧level≤3∧(σ.txns.getD s none).isNone=true∧(σ.calls.getD s none).isNone=true∧σ.made<2000∧σ.word 0<18446744073709551616∧timeOf (σ.word 0)<281474976710000∧timeOf (σ.word 0)<σ.limit∧σ.count<3000000000000000000∧σ.tale.length<1000000 then
  if lastOf (σ.word 0)=0 then some (beginSt σ s level σ.tick,σ.made+1)
  else if lastOf (σ.word 0)≤2000 then some (beginSt σ s level (σ.tick.help (σ.word 0)),σ.made+1)
  else none
 else none
theorem begin_to {σ σ1:St} {s level id:Nat} (hs:s<8) (h:beginOk σ s level=some (σ1,id)):BeginTo σ s level σ1 id:=by
 intro A w hL;unfold beginOk at h
 split at h
 · rename_i hh
   obtain⟨h1,h2,h3,h4,h5,h6,h7,h8,h9,h10⟩:=hh
   split at h
   · rename_i hl
     simp only[Option.some.injEq,Prod.mk.injEq] at h;obtain⟨rfl,rfl⟩:=h;exact begin_new hL s hs level h1 h2 (by simpa using h3) (by simpa using h4) h5 h6 h7 h8 hl h9 h10
   · rename_i hl
     split at h
     · rename_i hl2
       simp only[Option.some.injEq,Prod.mk.injEq] at h;obtain⟨rfl,rfl⟩:=h;exact begin_help hL s hs level h1 h2 (by simpa using h3) (by simpa using h4) h5 h6 h7 h8 ⟨by omega,hl2⟩ h9 h10
     · cases h
 · cases h
theorem FRow.row {L:Lab} {w:World} {size:Nat} {v:Value} {xs:List Value} (h:FRow L w size v xs):Ow.Row w 0 size v xs:=by
 obtain⟨a,n,cap,h1,h2,h3,h4,h5⟩:=h;refine⟨a,n,cap,h1,h2,h3,h4,?_⟩
 rcases h5 with h5|⟨g,off,e1,e2,e3,e4⟩
 · exact .inl h5
 · exact .inr ⟨g,off,e1,Nat.zero_le _,e3,e4⟩
theorem Grow.toBelow {L':Lab} {w w':World} (g:Grow (fun _=>none) w L' w'):Below w.heap.size w w':=⟨g.os,g.tape,g.output,g.size,fun b hb=>g.block b hb rfl⟩
theorem status_any {A:Book} {σ:St} {w:World} (hL:Live A σ w) (s:Nat) (hs:s<8):
 Calls Tryz.prog 18 #[.pointer (some ⟨A.be,0,none⟩),zi (s:Int)] w fun e w'=>e=.returned (.agg (statusCs (σ.status s)))∧Below w.heap.size w w':=by
 unfold St.status
 cases ht:σ.txns.getD s none with
 |none=>exact status_none hL.rep s hs ht
 |some t=>
  by_cases he:0<t.end_
  · cases hc:σ.calls.getD s none with
    |none=>
     have h:=status_10 hL s hs t ht he hc;simp only[if_pos he];exact h
    |some c=>
     have h:=status_11 hL s hs t ht he c hc;simp only[if_pos he];exact h
  · cases hc:σ.calls.getD s none with
    |none=>
     have h:=status_00 hL s hs t ht (by omega) hc;simp only[if_neg he];exact h
    |some c=>
     have h:=status_01 hL s hs t ht (by omega) c hc;simp only[if_neg he];exact h
def BegunNot (A:Book) (w:World) (σ':St) (er:Nat):Ending→World→Prop:=fun e w'=>∃ A',e=.returned (.tuple #[zi 0,zi (er:Int)])∧Live A' σ' w'∧Grow A.L w A'.L w'∧A'.be=A.be
theorem Live.tick {A:Book} {σ:St} {w w':World} (hL:Live A σ w) (r:Rep A σ.tick w') (g:Grow A.L w A.L w'):Live A σ.tick w':=
 ⟨r,hL.mp,hL.mt,fun s h c hc=>let ⟨e1,k,e2,e3⟩:=hL.call s h c hc;⟨e1,k,e2,(show KRep (kp A σ s) A.L w' (A.vnext s) k from e3.grow g)⟩,hL.idle,hL.sx.keep rfl ⟨rfl,rfl⟩ g⟩
theorem begin_over {A:Book} {σ:St} {w:World} (hL:Live A σ w) (s:Nat) (hs:s<8) (level:Nat) (hl1:1≤level) (hl2:level≤3) (hn:σ.txns.getD s none=none) (hmd:σ.made<2000) (hx:σ.word 0<18446744073709551616) (hlim:σ.limit≤timeOf (σ.word 0)) (hcnt:σ.count<3000000000000000000):
 Calls Tryz.prog 41 #[.pointer (some ⟨A.be,0,none⟩),zi (s:Int),zi (level:Int)] w (BegunNot A w σ.tick 16):=by
 have hR:=hL.rep;have b1:(s:Int)<8:=by omega
 have b0:(0:Int)≤(s:Int):=by omega
 have hsok:=zH (sessionOk s hs);have hlev:=zH (levelOk level hl1 hl2);have e2:w.cell? ⟨A.be,2,none⟩=some (.pointer (some ⟨A.ba,0,none⟩)):=hR.eng 2 rfl;have v5:=hR.eng (5+s) (engCs_txn A σ hs);rw[show A.tp σ s=.pointer none by unfold Book.tp;rw[hn]] at v5;have v21:w.cell? ⟨A.be,21,none⟩=some (zi (σ.made:Int)):=hR.eng 21 rfl;have d1:decide ((2000:Int)≤(σ.made:Int))=false:=by simp;omega
 have d2:((2000:Int)≤(σ.made:Int))=False:=by simp;omega
 have d3:(2000≤σ.made)=False:=by simp;omega
 have l1:decide ((σ.limit:Int)≤(timeOf (σ.word 0):Int))=true:=by simp;omega
 have l2:((σ.limit:Int)≤(timeOf (σ.word 0):Int))=True:=by simp;omega
 have l3:(σ.limit≤timeOf (σ.word 0))=True:=by simp;omega
 have HLo:=zH (load_i hR 0 0 rfl (by rw[hR.nw];omega) (by omega));have HDr:=zH (fun w'=>drawn_any (σ.word 0) hx w');have H1:Hid (∀ w1,Rep A σ.tick w1→Grow A.L w A.L w1→w1.cell? ⟨A.be,1,none⟩=some (zu (σ.limit:Int))):=fun w1 r g=>r.eng 1 rfl
 have HL0:=zH hL;clear hL hs hl1 hl2 hn hmd hx hlim hcnt hR;go_enter Tryz.func41,Tryz.ntmps41;go_wp2_with (first|(go_at_call 48;refine (hsok.out _).mono ?_;rintro e w' ⟨rfl,rfl⟩)|(go_at_call 72;refine (hlev.out _).mono ?_;rintro e w' ⟨rfl,rfl⟩)|(go_at_call 73;refine HLo.out.mono ?_;rintro e w1 ⟨rfl,q1,q2⟩;have v1:=H1.out w1 q1 q2;have HQ1:=zH (zA q1 q2);clear q1 q2)|(go_at_call 59;refine (HDr.out _).mono ?_;rintro e w' ⟨rfl,rfl⟩))
 go_ret2
 exact⟨A,rfl,HL0.out.tick HQ1.out.1 HQ1.out.2,HQ1.out.2,rfl⟩
theorem begin_taken {A:Book} {σ:St} {w:World} (hL:Live A σ w) (s:Nat) (hs:s<8) (level:Nat) (hl1:1≤level) (hl2:level≤3) (t:Txn) (ht:σ.txns.getD s none=some t):
 Calls Tryz.prog 41 #[.pointer (some ⟨A.be,0,none⟩),zi (s:Int),zi (level:Int)] w (BegunNot A w σ 9):=by
 have hR:=hL.rep;have b1:(s:Int)<8:=by omega
 have b0:(0:Int)≤(s:Int):=by omega
 have hsok:=zH (sessionOk s hs);have hlev:=zH (levelOk level hl1 hl2);have v5:=hR.eng (5+s) (engCs_txn A σ hs);rw[show A.tp σ s=.pointer (some ⟨A.bt s,0,none⟩) by unfold Book.tp;rw[ht]] at v5;have HL0:=zH hL;clear hL hs hl1 hl2 ht hR;go_enter Tryz.func41,Tryz.ntmps41;go_wp2_with (first|(go_at_call 48;refine (hsok.out _).mono ?_;rintro e w' ⟨rfl,rfl⟩)|(go_at_call 72;refine (hlev.out _).mono ?_;rintro e w' ⟨rfl,rfl⟩))
 go_ret2
 exact⟨A,rfl,HL0.out,Grow.refl _ _,rfl⟩
end Go.Proofs.YtbefcdjcefmicaaGreat.Em
