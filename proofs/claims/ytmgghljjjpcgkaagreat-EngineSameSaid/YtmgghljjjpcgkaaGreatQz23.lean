import Derived.Test.YtmgghljjjpcgkaaGreatQz21
import Derived.Test.YtmgghljjjpcgkaaGreatQz22
namespace Go.Proofs.YtmgghljjjpcgkaaGreat.Em
open Go.ChangeShapes Go.WideShapes Go.ChangeAt Go.RowKit En
set_option linter.unusedVariables false
set_option linter.unusedSimpArgs false
set_option maxRecDepth 100000
set_option maxHeartbeats 1600000
def Book.lab (A:Book) (L:Lab):Book:={A with L:=L}
theorem mem_labO (A:Book) (σ:St) (L:Lab) (q:Role):memOf (A.lab L) σ q=memOf A σ q:=by cases q<;>rfl
structure Off (L:Lab) (w:World) (L':Lab) (w':World):Prop where
 size:w.heap.size≤w'.heap.size
 same:∀ b,b<w.heap.size→L b≠some .tmp→w'.heap[b]? =w.heap[b]?
 lab:∀ b,b<w.heap.size→L' b=L b
 fresh:∀ b,w'.heap.size≤b→L' b=none
section
variable {A B:Book} {σ τ:St} {w w':World} {L L':Lab}
theorem Off.soft (h:Off L w L' w'):Soft L w L' w':=⟨h.size,fun b hb e=>h.same b hb (by rw[e];simp),fun b hb e=>(h.lab b hb).trans e⟩
theorem Rep.off (hR:Rep A σ w) (h:Off A.L w L' w'):Rep (A.lab L') σ w':=by
 refine⟨⟨fun r=>?_,h.fresh⟩,hR.ev.soft h.soft,hR.sl,hR.nw,hR.nt,hR.nv,hR.n8,hR.nc⟩;rw[mem_labO]
 by_cases hr:r=.tmp
 · subst hr;trivial
 · exact (hR.mem.all r).frame (fun k hk hk'=>h.same k hk (by rw[hk'];intro e;exact hr (Option.some.inj e))) h.lab
theorem Live.off (hL:Live A σ w) (h:Off A.L w L' w'):Live (A.lab L') σ w':=
 ⟨hL.rep.off h,hL.mp,hL.mt,fun s hs c hc=>let ⟨e1,k,e2,e3⟩:=hL.call s hs c hc;⟨e1,k,e2,(show KRep (kp A σ s) (A.lab L').L w' (A.vnext s) k from e3.soft h.soft)⟩,hL.idle,hL.sx.soft rfl h.soft⟩
end
theorem Entry.Holds.relab {L L':Lab} {w:World} {r:Role} {e:Entry} (h:e.Holds L w r) (hl:∀ b,L b=some r→L' b=some r):e.Holds L' w r:=by
 cases e with
 |none=>trivial
 |obj b cs T=>exact⟨hl _ h.1,h.2⟩
 |map b es c=>exact⟨hl _ h.1,h.2⟩
 |own v e size n xs=>exact⟨h.1,fun g hg=>hl _ (h.2 g hg)⟩
theorem Live.relab {B:Book} {τ:St} {w:World} {L':Lab} (hL:Live B τ w) (ht:τ.tale=[]) (hc:∀ s,τ.calls.getD s none=none) (hs:τ.sw=none) (hl:∀ b q,B.L b=some q→L' b=some q) (hf:∀ b,w.heap.size≤b→L' b=none):Live (B.lab L') τ w:=by
 refine⟨⟨⟨fun r=>?_,hf⟩,?_,hL.rep.sl,hL.rep.nw,hL.rep.nt,hL.rep.nv,hL.rep.n8,hL.rep.nc⟩,hL.mp,hL.mt,fun s h c e=>(by rw[hc s] at e;cases e),hL.idle,⟨?_,hL.sx.cu⟩⟩
 · rw[mem_labO]
   exact (hL.rep.mem.all r).relab (fun b e=>hl b r e)
 · have h:=hL.rep.ev
   rw[ht] at h ⊢;exact h
 · have h:=hL.sx.sw
   rw[hs] at h ⊢;exact h
theorem Live.untmp {A:Book} {σ:St} {w:World} {L':Lab} (hL:Live A σ w) (h1:∀ b q,A.L b=some q→q≠.tmp→L' b=some q) (h0:∀ b,A.L b=none→L' b=none) (hf:∀ b,w.heap.size≤b→L' b=none):Live (A.lab L') σ w:=by
 have sf:Soft A.L w (A.lab L').L w:=⟨Nat.le_refl _,fun _ _ _=>rfl,fun b _ e=>h0 b e⟩
 refine⟨⟨⟨fun r=>?_,hf⟩,hL.rep.ev.soft sf,hL.rep.sl,hL.rep.nw,hL.rep.nt,hL.rep.nv,hL.rep.n8,hL.rep.nc⟩,hL.mp,hL.mt,fun s hs c hc=>let ⟨e1,k,e2,e3⟩:=hL.call s hs c hc;⟨e1,k,e2,(show KRep (kp A σ s) (A.lab L').L w (A.vnext s) k from e3.soft sf)⟩,hL.idle,hL.sx.soft rfl sf⟩;rw[mem_labO]
 by_cases hr:r=.tmp
 · subst hr;trivial
 · exact (hL.rep.mem.all r).relab (fun b e=>h1 b r e hr)
def own1 (n:Nat) (M:Lab):Lab:=fun k=>if k<n then M k else match M k with|some .tmp=>none|x=>x
theorem own1_own {M:Lab} {n k:Nat} {r:Role} (e:M k=some r) (hr:r≠.tmp):own1 n M k=some r:=by
 unfold own1;rw[e]
 split
 · rfl
 · cases r<;>first|rfl|exact absurd rfl hr
theorem own1_none {M:Lab} {n k:Nat} (e:M k=none):own1 n M k=none:=by unfold own1;rw[e];split<;>rfl
theorem own1_ge {M:Lab} {n k:Nat} {r:Role} (h:n≤k) (e:own1 n M k=some r):M k=some r∧r≠.tmp:=by
 unfold own1 at e;rw[if_neg (by omega)] at e
 split at e
 · cases e
 · rename_i x
   exact⟨e,by rintro rfl;exact x e⟩
section
variable {A B:Book} {σ τ:St} {w w':World} {L L':Lab} {vs:List (Nat×Obj)}
end
section
variable {be ce:Nat} {w0 w w':World} {ks:List Kept} {vs:List (Nat×Obj)} {σ τ:St}
end
theorem own0 {M:Lab} {k:Nat} {r:Role} (e:own1 0 M k=some r):M k=some r∧r≠.tmp:=own1_ge (Nat.zero_le _) e
theorem Kepts.of {L:Lab} {w:World}:∀ {ks:List Kept},(∀ k∈ks,k.holds L w)→Kepts L w ks
 |[],_=>trivial
 |_::_,h=>⟨h _ List.mem_cons_self,Kepts.of fun k hk=>h k (List.mem_cons_of_mem _ hk)⟩
theorem Kepts.mem {L:Lab} {w:World} {k:Kept}:∀ {ks:List Kept},Kepts L w ks→k∈ks→k.holds L w
 |[],_,h=>by cases h
 |x::ks,t,h=>by
  rcases List.mem_cons.1 h with rfl|h
  · exact t.1
  · exact Kepts.mem t.2 h
def own:Option Role→Bool
 |none=>false
 |some .tmp=>false
 |some _=>true
theorem own_of {r:Role} (h:r≠.tmp):own (some r)=true:=by cases r<;>first|rfl|exact absurd rfl h
theorem own_tn {x:Option Role} (h:own x=false):x=none∨x=some .tmp:=by
 cases x with
 |none=>exact .inl rfl
 |some r=>
  by_cases hr:r=.tmp
  · subst hr;exact .inr rfl
  · rw[own_of hr] at h;cases h
def owned (L M:Lab) (k:Nat):Bool:=own (L k)||(M k).isSome
def mark (L:Lab) (p:Nat→Bool):Lab:=fun k=>if own (L k)=true then L k else if p k=true then some .tmp else none
theorem mark_own {L:Lab} {p:Nat→Bool} {k:Nat} (h:own (L k)=true):mark L p k=L k:=if_pos h
theorem mark_tmp {L:Lab} {p:Nat→Bool} {k:Nat} (h:own (L k)=false) (hp:p k=true):mark L p k=some .tmp:=by
 unfold mark;rw[if_neg (by rw[h];simp),if_pos hp]
theorem mark_none {L:Lab} {p:Nat→Bool} {k:Nat} (h:own (L k)=false) (hp:p k=false):mark L p k=none:=by
 unfold mark;rw[if_neg (by rw[h];simp),if_neg (by rw[hp];simp)]
theorem own_mark (L:Lab) (p:Nat→Bool) (k:Nat):own (mark L p k)=own (L k):=by
 cases h:own (L k) with
 |true=>rw[mark_own h,h]
 |false=>
  cases hp:p k with
  |true=>rw[mark_tmp h hp];rfl
  |false=>rw[mark_none h hp];rfl
theorem owned_mark (L M:Lab) (p:Nat→Bool) (k:Nat):owned (mark L p) M k=owned L M k:=by unfold owned;rw[own_mark]
theorem mark_isTmp {L:Lab} {p:Nat→Bool} {k:Nat} (h:mark L p k=some .tmp):p k=true:=by
 cases ho:own (L k) with
 |true=>
  rw[mark_own ho] at h;rw[h] at ho;cases ho
 |false=>
  cases hp:p k with
  |true=>rfl
  |false=>rw[mark_none ho hp] at h;cases h
structure Duo (A:Book) (B:WBook) (W:Wd) (C:Book) (D:WBook) (V:Wd) (w:World):Prop where
 a:Live A W.σ w
 ra:WRep A W B w
 c:Live C V.σ w
 rc:WRep C V D w
 ac:∀ k,owned A.L B.M k=true→C.L k=some .tmp∧D.M k=none
 ca:∀ k,owned C.L D.M k=true→A.L k=some .tmp∧B.M k=none
 at_:∀ k,A.L k=some .tmp→owned A.L B.M k=true∨owned C.L D.M k=true
 ct:∀ k,C.L k=some .tmp→owned C.L D.M k=true∨owned A.L B.M k=true
theorem Duo.symm {A:Book} {B:WBook} {W:Wd} {C:Book} {D:WBook} {V:Wd} {w:World} (h:Duo A B W C D V w):Duo C D V A B W w:=⟨h.c,h.rc,h.a,h.ra,h.ca,h.ac,h.ct,h.at_⟩
structure W2 (bw be dw ce:Nat) (w0:World) (W V:Wd) (w:World):Prop where
 ex:∃ (A:Book) (B:WBook) (C:Book) (D:WBook),A.be=be∧B.bw=bw∧C.be=ce∧D.bw=dw∧Duo A B W C D V w∧Grow (fun _=>none) w0 A.L w∧Grow (fun _=>none) w0 C.L w
def others (L M:Lab) (w:World):List Kept:=(List.range w.heap.size).filterMap fun k=>
 match w.heap[k]? with
 |none=>none
 |some o=>
  match L k with
  |none=>some (.obj k o)
  |some .tmp=>(match M k with|none=>some (.far k o)|some _=>none)
  |some _=>none
theorem others_obj {L M:Lab} {w:World} {k:Nat} {o:Obj} (h:w.heap[k]? =some o) (hl:L k=none):Kept.obj k o∈others L M w:=
 List.mem_filterMap.2 ⟨k,List.mem_range.2 (lt_of h),by simp only[h,hl]⟩
theorem others_far {L M:Lab} {w:World} {k:Nat} {o:Obj} (h:w.heap[k]? =some o) (hl:L k=some .tmp) (hm:M k=none):Kept.far k o∈others L M w:=
 List.mem_filterMap.2 ⟨k,List.mem_range.2 (lt_of h),by simp only[h,hl,hm]⟩
theorem others_kept {L M:Lab} {w:World} {x:Kept} (h:x∈others L M w):x.holds L w∧∀ b o,x=.far b o→M b=none:=by
 obtain⟨k,hk,he⟩:=List.mem_filterMap.1 h
 split at he
 · cases he
 · rename_i o ho
   split at he
   · rename_i hl
     obtain rfl:=Option.some.inj he;exact⟨⟨hl,ho⟩,fun b o e=>by cases e⟩
   · rename_i hl
     split at he
     · rename_i hm
       obtain rfl:=Option.some.inj he;exact⟨⟨hl,ho⟩,fun b o e=>by cases e;exact hm⟩
     · cases he
   · cases he
theorem others_kw (L M:Lab) (w:World):KW M L w (.floor w.heap.size::others L M w):=
 ⟨⟨Nat.le_refl _, Kepts.of fun k hk => (others_kept hk).1⟩, fun b o hm => by
   rcases List.mem_cons.1 hm with e|hm
   · cases e
   · exact (others_kept hm).2 b o rfl⟩
section
variable {A C:Book} {B D:WBook} {W V:Wd} {w w':World}
theorem WRep.fresh (h:WRep A W B w) {k:Nat} (hk:w.heap.size≤k):B.M k=none:=h.mem.fresh k hk
theorem Live.fresh {σ:St} (h:Live A σ w) {k:Nat} (hk:w.heap.size≤k):A.L k=none:=h.rep.mem.fresh k hk
theorem owned_lt {σ:St} (h:Live A σ w) (r:WRep A W B w) {k:Nat} (hk:owned A.L B.M k=true):k<w.heap.size:=by
 rcases Nat.lt_or_ge k w.heap.size with h1|h1
 · exact h1
 · unfold owned at hk
   rw[h.fresh h1,r.fresh h1] at hk;cases hk
theorem owned_none {σ:St} (r:WRep A W B w) {k:Nat} (hk:A.L k=none):owned A.L B.M k=false:=by
 unfold owned;rw[hk]
 cases hb:B.M k with
 |none=>rfl
 |some q=>rw[r.tie k q hb] at hk;cases hk
theorem owned_M {L M:Lab} {k:Nat} {r:Role} (h:M k=some r):owned L M k=true:=by unfold owned;rw[h];simp
theorem owned_L {L M:Lab} {k:Nat} (h:own (L k)=true):owned L M k=true:=by unfold owned;rw[h];rfl
theorem Duo.none (d:Duo A B W C D V w) {k:Nat} (h:C.L k=none):A.L k=none:=by
 cases ha:A.L k with
 |none=>rfl
 |some r=>
  exfalso
  by_cases hr:r=.tmp
  · subst hr
    rcases d.at_ k ha with h1|h1
    · rw[(d.ac k h1).1] at h;cases h
    · rw[owned_none (σ:=V.σ) d.rc h] at h1;cases h1
  · rw[(d.ac k (owned_L (by rw[ha];exact own_of hr))).1] at h;cases h
theorem WRep.relab (r:WRep A W B w) {L':Lab} (h0:∀ b,A.L b=none→L' b=none) (ht:∀ b q,B.M b=some q→L' b=some .tmp):WRep (A.lab L') W B w:=
 ⟨ht,r.mem,fun k p hk=>(r.cls k p hk).soft (L':=(A.lab L').L) (w':=w) ⟨Nat.le_refl _,fun _ _ _=>rfl,fun b _ e=>h0 b e⟩,r.dl,r.i8,r.o8⟩
end
section
variable {bw be dw ce:Nat} {w0 w w':World} {W W' V:Wd}
theorem W2.symm (h:W2 bw be dw ce w0 W V w):W2 dw ce bw be w0 V W w:=
 let ⟨A,B,C,D,e1,e2,e3,e4,d,g1,g2⟩:=h.ex;⟨C,D,A,B,e3,e4,e1,e2,d.symm,g2,g1⟩
theorem W2.toBelow (h:W2 bw be dw ce w0 W V w):Below w0.heap.size w0 w:=let ⟨_,_,_,_,_,_,_,_,_,g,_⟩:=h.ex;g.toBelow
theorem W2.below (h:W2 bw be dw ce w0 W V w) (hb:Below w.heap.size w w'):W2 bw be dw ce w0 W V w':=
 let ⟨A,B,C,D,e1,e2,e3,e4,d,g1,g2⟩:=h.ex
 ⟨A,B,C,D,e1,e2,e3,e4,⟨d.a.below hb,d.ra.grow (Grow.below hb) rfl W.σ,d.c.below hb,d.rc.grow (Grow.below hb) rfl V.σ,d.ac,d.ca,d.at_,d.ct⟩,g1.trans (Grow.below hb),g2.trans (Grow.below hb)⟩
theorem W2.drew (h:W2 bw be dw ce w0 W V w):W2 bw be dw ce w0 W V w.drew:=h.below (Below.refl _ _).drew
theorem W2.wk (h:W2 bw be dw ce w0 W V w):∃ B,B.bw=bw∧WK B be w0 [] W w:=
 let ⟨A,B,C,D,e1,e2,e3,e4,d,g1,g2⟩:=h.ex;⟨B,e2,A,e1,d.a,d.ra,g1,KW.nil⟩
theorem W2.cell (h:W2 bw be dw ce w0 W V w):w.cell? ⟨bw,0,none⟩=some (.pointer (some ⟨be,0,none⟩)):=by
 obtain⟨B,rfl,q⟩:=h.wk;exact (q.wcell 0 rfl).1
theorem W2.left (h:W2 bw be dw ce w0 W V w) {f:FuncId} {args:Array Value} {R:Ending→Prop}
 (hc:∀ B ks,B.bw=bw→WK B be w0 ks W w→Calls Tryz.prog f args w fun e w'=>R e∧∃ ks' B',B'.bw=bw∧WK B' be w0 (ks'++ks) W' w'):
 Calls Tryz.prog f args w fun e w'=>R e∧W2 bw be dw ce w0 W' V w':=by
 obtain⟨A,B,C,D,e1,e2,e3,e4,d,g1,g2⟩:=h.ex;refine (hc B _ e2 ⟨A,e1,d.a,d.ra,g1,others_kw A.L B.M w⟩).mono ?_;rintro e w' ⟨hR,ks',B',eb,q⟩;refine⟨hR,?_⟩;obtain⟨A',e1',lA,rA,gA,kA,sA⟩:=q.ex;have hsz:w.heap.size≤w'.heap.size:=kA.mem (k:=.floor w.heap.size) (by simp);have old0:∀ k,k<w.heap.size→A.L k=none→A'.L k=none∧w'.heap[k]? =w.heap[k]? :=fun k hk hl=>by
  obtain⟨o,ho⟩:∃ o,w.heap[k]? =some o:=⟨_,Array.getElem?_eq_getElem hk⟩
  have:=kA.mem (k:=.obj k o) (List.mem_append_right _ (List.mem_cons_of_mem _ (others_obj ho hl)));exact⟨this.1,this.2.trans ho.symm⟩
 have oldT:∀ k,k<w.heap.size→A.L k=some .tmp→B.M k=none→A'.L k=some .tmp∧w'.heap[k]? =w.heap[k]? ∧B'.M k=none:=fun k hk hl hm=>by
  obtain⟨o,ho⟩:∃ o,w.heap[k]? =some o:=⟨_,Array.getElem?_eq_getElem hk⟩
  have hin:Kept.far k o∈ks'++(Kept.floor w.heap.size::others A.L B.M w):=List.mem_append_right _ (List.mem_cons_of_mem _ (others_far ho hl hm));have:=kA.mem hin;exact⟨this.1,this.2.trans ho.symm,sA k o hin⟩
 have oldY:∀ k,owned C.L D.M k=true→A'.L k=some .tmp∧w'.heap[k]? =w.heap[k]? ∧B'.M k=none:=fun k hk=>
  oldT k (owned_lt d.c d.rc hk) (d.ca k hk).1 (d.ca k hk).2
 obtain⟨PA,hPA⟩:∃ P,P=mark A'.L fun k=>(B'.M k).isSome||owned C.L D.M k:=⟨_,rfl⟩
 obtain⟨PC,hPC⟩:∃ P,P=mark C.L fun k=>(D.M k).isSome||owned A'.L B'.M k:=⟨_,rfl⟩
 have a0:∀ b,A'.L b=none→PA b=none:=fun b hb=>by
  rw[hPA];have h1:owned A'.L B'.M b=false:=owned_none (σ:=W'.σ) rA hb;unfold owned at h1;rw[hb] at h1;refine mark_none (by rw[hb];rfl) ?_;have h2:(B'.M b).isSome=false:=h1;rw[h2]
  cases hy:owned C.L D.M b with
  |false=>rfl
  |true=>rw[(oldY b hy).1] at hb;cases hb
 have a1:∀ b q,A'.L b=some q→q≠.tmp→PA b=some q:=fun b q hb hq=>by
  rw[hPA,mark_own (by rw[hb];exact own_of hq)];exact hb
 have aT:∀ b q,B'.M b=some q→PA b=some .tmp:=fun b q hb=>by
  rw[hPA];exact mark_tmp (by rw[rA.tie b q hb];rfl) (by rw[hb];rfl)
 have c00:∀ b,C.L b=none→w.heap.size≤b∨(A.L b=none∧A'.L b=none):=fun b hb=>by
  rcases Nat.lt_or_ge b w.heap.size with h1|h1
  · exact .inr ⟨d.none hb,(old0 b h1 (d.none hb)).1⟩
  · exact .inl h1
 have c0:∀ b,b<w.heap.size→C.L b=none→PC b=none:=fun b hlt hb=>by
  rw[hPC];have h1:=owned_none (σ:=V.σ) d.rc hb;unfold owned at h1;rw[hb] at h1;refine mark_none (by rw[hb];rfl) ?_;have h2:(D.M b).isSome=false:=h1;rw[h2,owned_none (σ:=W'.σ) rA (old0 b hlt (d.none hb)).1];rfl
 have cf:∀ b,w'.heap.size≤b→PC b=none:=fun b hb=>by
  rw[hPC];refine mark_none (by rw[d.c.fresh (Nat.le_trans hsz hb)];rfl) ?_;rw[d.rc.fresh (Nat.le_trans hsz hb),owned_none (σ:=W'.σ) rA (lA.fresh hb)];rfl
 have cT:∀ b q,D.M b=some q→PC b=some .tmp:=fun b q hb=>by
  rw[hPC];exact mark_tmp (by rw[d.rc.tie b q hb];rfl) (by rw[hb];rfl)
 have csame:∀ b,b<w.heap.size→C.L b≠some .tmp→w'.heap[b]? =w.heap[b]? :=fun b hlt hb=>by
  cases hc:own (C.L b) with
  |true=>exact (oldY b (owned_L hc)).2.1
  |false=>
   rcases own_tn hc with h1|h1
   · exact (old0 b hlt (d.none h1)).2
   · exact absurd h1 hb
 obtain⟨L1,hL1⟩:∃ L1:Lab,L1=fun k=>if k<w.heap.size then C.L k else PC k:=⟨_,rfl⟩
 have l1a:∀ k,k<w.heap.size→L1 k=C.L k:=fun k hk=>by rw[hL1];exact if_pos hk
 have l1b:∀ k,¬ k<w.heap.size→L1 k=PC k:=fun k hk=>by rw[hL1];exact if_neg hk
 have hoff:Off C.L w L1 w':=⟨hsz,csame,l1a,fun b hb=>by rw[l1b b (by omega)];exact cf b hb⟩
 have lC1:Live (C.lab L1) V.σ w':=d.c.off hoff
 have lC : Live ((C.lab L1).lab PC) V.σ w' := lC1.untmp (fun b q hb hq => by
     replace hb:L1 b=some q:=hb
     by_cases hlt:b<w.heap.size
     · rw[l1a b hlt] at hb
       rw[hPC,mark_own (by rw[hb];exact own_of hq)];exact hb
     · rw[l1b b hlt] at hb;exact hb) (fun b hb=>by
     replace hb:L1 b=none:=hb
     by_cases hlt:b<w.heap.size
     · rw[l1a b hlt] at hb;exact c0 b hlt hb
     · rw[l1b b hlt] at hb;exact hb) cf
 have lA':Live (A'.lab PA) W'.σ w':=lA.untmp a1 a0 (fun b hb=>a0 b (lA.fresh hb));have rC:WRep (C.lab PC) V D w':=by
  refine⟨cT,d.rc.mem.grow (fun b r _ hr=>(oldY b (owned_M hr)).2.1) (fun _ _=>rfl) (fun b hb=>d.rc.fresh (Nat.le_trans hsz hb)),fun k p hk=>?_,d.rc.dl,d.rc.i8,d.rc.o8⟩;exact (d.rc.cls k p hk).soft ⟨hsz,fun b hb hn=>csame b hb (by rw[hn];simp),fun b hb hn=>c0 b hb hn⟩
 have oA:∀ k,owned (A'.lab PA).L B'.M k=owned A'.L B'.M k:=fun k=>by show owned PA B'.M k=_;rw[hPA,owned_mark]
 have oC:∀ k,owned (C.lab PC).L D.M k=owned C.L D.M k:=fun k=>by show owned PC D.M k=_;rw[hPC,owned_mark]
 refine⟨A'.lab PA,B',C.lab PC,D,e1',eb,e3,e4,⟨lA',rA.relab a0 aT,lC,rC,fun k hk=>?_,fun k hk=>?_,fun k hk=>?_,fun k hk=>?_⟩,⟨gA.os,gA.tape,gA.output,gA.size,gA.block,fun b hb=>a0 b (gA.lab b hb),fun b hb e=>(by cases e)⟩,⟨gA.os,gA.tape,gA.output,gA.size,gA.block,fun b hb=>c0 b (Nat.lt_of_lt_of_le hb g2.size) (g2.lab b hb),fun b hb e=>(by cases e)⟩⟩
 · rw[oA] at hk
   have hn:owned C.L D.M k=false:=by
    cases hy:owned C.L D.M k with
    |false=>rfl
    |true=>
     obtain⟨y1,-,y3⟩:=oldY k hy;unfold owned at hk;rw[y1,y3] at hk;cases hk
   have hn0:=hn;unfold owned at hn;obtain⟨n1,n2⟩:=Bool.or_eq_false_iff.1 hn;refine⟨?_,by cases hm:D.M k with|none=>rfl|some q=>rw[hm] at n2;cases n2⟩;show PC k=_;rw[hPC];exact mark_tmp n1 (by rw[hk,n2];rfl)
 · rw[oC] at hk
   obtain⟨y1,-,y3⟩:=oldY k hk;refine⟨?_,y3⟩;show PA k=_;rw[hPA];exact mark_tmp (by rw[y1];rfl) (by rw[hk];simp)
 · rw[oA,oC]
   replace hk:PA k=some .tmp:=hk;rw[hPA] at hk;have:=mark_isTmp hk
   rcases Bool.or_eq_true_iff.1 this with h1|h1
   · exact .inl (by unfold owned;rw[h1];simp)
   · exact .inr h1
 · rw[oA,oC]
   replace hk:PC k=some .tmp:=hk;rw[hPC] at hk;have:=mark_isTmp hk
   rcases Bool.or_eq_true_iff.1 this with h1|h1
   · exact .inl (by unfold owned;rw[h1];simp)
   · exact .inr h1
theorem w2_new {B D:WBook} {w1 w2:World} (q:WK B be w0 [] W w1) (q2:WK D ce w1 [] V w2) (ht:V.σ.tale=[]) (hc:∀ s,V.σ.calls.getD s none=none) (hs:V.σ.sw=none) (hd:V.deals=[]):W2 B.bw be D.bw ce w0 W V w2:=by
 obtain⟨A,ea,la,ra,ga,-⟩:=q.ex;obtain⟨C,ec,lc,rc,gc,-⟩:=q2.ex;have hb:=gc.toBelow;have la2:=la.below hb;have ra2:=ra.grow (Grow.below hb) rfl W.σ;have hlow:∀ k,k<w1.heap.size→C.L k=none:=fun k hk=>gc.lab k hk
 have hxy:∀ k,owned C.L D.M k=true→A.L k=none∧B.M k=none:=fun k hk=>by
  rcases Nat.lt_or_ge k w1.heap.size with h1|h1
  · rw[owned_none (σ:=V.σ) rc (hlow k h1)] at hk;cases hk
  · exact⟨la.fresh h1,ra.fresh h1⟩
 have hyx:∀ k,owned A.L B.M k=true→C.L k=none∧D.M k=none:=fun k hk=>by
  have h1:=owned_lt la ra hk;have h2:=hlow k h1;refine⟨h2,?_⟩;have h3:=owned_none (σ:=V.σ) rc h2
  cases hm:D.M k with
  |none=>rfl
  |some q=>rw[owned_M hm] at h3;cases h3
 obtain⟨PA,hPA⟩:∃ P,P=mark A.L fun k=>(B.M k).isSome||owned C.L D.M k:=⟨_,rfl⟩
 obtain⟨PC,hPC⟩:∃ P,P=mark C.L fun k=>(D.M k).isSome||owned A.L B.M k:=⟨_,rfl⟩
 have a0:∀ b,b<w1.heap.size→A.L b=none→PA b=none:=fun b hlt hb=>by
  rw[hPA];have h1:=owned_none (σ:=W.σ) ra hb;unfold owned at h1;rw[hb] at h1;refine mark_none (by rw[hb];rfl) ?_;have h2:(B.M b).isSome=false:=h1;rw[h2,owned_none (σ:=V.σ) rc (hlow b hlt)];rfl
 have aT:∀ b q,B.M b=some q→PA b=some .tmp:=fun b q hb=>by
  rw[hPA];exact mark_tmp (by rw[ra.tie b q hb];rfl) (by rw[hb];rfl)
 have af:∀ b,w2.heap.size≤b→PA b=none:=fun b hb=>by
  have h1:=owned_none (σ:=W.σ) ra2 (la2.fresh hb);unfold owned at h1;obtain⟨n1,n2⟩:=Bool.or_eq_false_iff.1 h1;rw[hPA];exact mark_none n1 (by rw[n2,owned_none (σ:=V.σ) rc (lc.fresh hb)];rfl)
 obtain⟨L1,hL1⟩:∃ L1:Lab,L1=fun k=>if k<w1.heap.size then A.L k else PA k:=⟨_,rfl⟩
 have l1a:∀ k,k<w1.heap.size→L1 k=A.L k:=fun k hk=>by rw[hL1];exact if_pos hk
 have l1b:∀ k,¬ k<w1.heap.size→L1 k=PA k:=fun k hk=>by rw[hL1];exact if_neg hk
 have hoff:Off A.L w1 L1 w2:=⟨gc.size,fun b hlt _=>gc.block b hlt rfl,l1a,fun b hb=>by rw[l1b b (by have:=gc.size;omega)];exact af b hb⟩
 have lA1:Live (A.lab L1) W.σ w2:=la.off hoff
 have lA : Live ((A.lab L1).lab PA) W.σ w2 := lA1.untmp (fun b q hb hq => by
     replace hb:L1 b=some q:=hb
     by_cases hlt:b<w1.heap.size
     · rw[l1a b hlt] at hb
       rw[hPA,mark_own (by rw[hb];exact own_of hq)];exact hb
     · rw[l1b b hlt] at hb;exact hb) (fun b hb=>by
     replace hb:L1 b=none:=hb
     by_cases hlt:b<w1.heap.size
     · rw[l1a b hlt] at hb;exact a0 b hlt hb
     · rw[l1b b hlt] at hb;exact hb) af
 have rA:WRep (A.lab PA) W B w2:=by
  refine⟨aT,ra2.mem,fun k p hk=>?_,ra.dl,ra.i8,ra.o8⟩;exact (ra.cls k p hk).soft ⟨gc.size,fun b hlt _=>gc.block b hlt rfl,fun b hlt hn=>a0 b hlt hn⟩
 have cf:∀ b,w2.heap.size≤b→PC b=none:=fun b hb=>by
  have h1:=owned_none (σ:=V.σ) rc (lc.fresh hb);unfold owned at h1;obtain⟨n1,n2⟩:=Bool.or_eq_false_iff.1 h1;rw[hPC];exact mark_none n1 (by rw[n2,owned_none (σ:=W.σ) ra2 (la2.fresh hb)];rfl)
 obtain⟨Q,hQ⟩:∃ Q:Lab,Q=own1 0 C.L:=⟨_,rfl⟩
 have lc1:Live (C.lab Q) V.σ w2:=lc.untmp (fun b q e hq=>by rw[hQ];exact own1_own e hq) (fun b e=>by rw[hQ];exact own1_none e) (fun b hb=>by rw[hQ];exact own1_none (lc.fresh hb))
 have lC : Live ((C.lab Q).lab PC) V.σ w2 := lc1.relab ht hc hs (fun b r e => by
   change Q b=some r at e
   rw[hQ] at e
   obtain⟨e1,e2⟩:=own0 e
   rw[hPC,mark_own (by rw[e1];exact own_of e2)];exact e1) cf
 have cT:∀ b q,D.M b=some q→PC b=some .tmp:=fun b q hb=>by
  rw[hPC];exact mark_tmp (by rw[rc.tie b q hb];rfl) (by rw[hb];rfl)
 have hds:D.ds=[]:=by have:=rc.dl;rw[hd] at this;exact List.map_eq_nil_iff.1 this
 have rC:WRep (C.lab PC) V D w2:=⟨cT,rc.mem,fun k p hk=>(by rw[hds] at hk;cases hk),rc.dl,rc.i8,rc.o8⟩
 have oA:∀ k,owned (A.lab PA).L B.M k=owned A.L B.M k:=fun k=>by show owned PA B.M k=_;rw[hPA,owned_mark]
 have oC:∀ k,owned (C.lab PC).L D.M k=owned C.L D.M k:=fun k=>by show owned PC D.M k=_;rw[hPC,owned_mark]
 refine⟨A.lab PA,B,C.lab PC,D,ea,rfl,ec,rfl,⟨lA,rA,lC,rC,fun k hk=>?_,fun k hk=>?_,fun k hk=>?_,fun k hk=>?_⟩,?_,?_⟩
 · rw[oA] at hk
   obtain⟨y1,y2⟩:=hyx k hk;refine⟨?_,y2⟩;show PC k=_;rw[hPC];exact mark_tmp (by rw[y1];rfl) (by rw[hk];simp)
 · rw[oC] at hk
   obtain⟨y1,y2⟩:=hxy k hk;refine⟨?_,y2⟩;show PA k=_;rw[hPA];exact mark_tmp (by rw[y1];rfl) (by rw[hk];simp)
 · rw[oA,oC]
   replace hk:PA k=some .tmp:=hk;rw[hPA] at hk
   rcases Bool.or_eq_true_iff.1 (mark_isTmp hk) with h1|h1
   · exact .inl (by unfold owned;rw[h1];simp)
   · exact .inr h1
 · rw[oA,oC]
   replace hk:PC k=some .tmp:=hk;rw[hPC] at hk
   rcases Bool.or_eq_true_iff.1 (mark_isTmp hk) with h1|h1
   · exact .inl (by unfold owned;rw[h1];simp)
   · exact .inr h1
 · have g:=ga.trans (Grow.below hb)
   exact⟨g.os,g.tape,g.output,g.size,g.block,fun b hlt=>a0 b (Nat.lt_of_lt_of_le hlt ga.size) (ga.lab b hlt),fun b hlt e=>(by cases e)⟩
 · have g:=ga.trans (Grow.below hb)
   refine⟨g.os,g.tape,g.output,g.size,g.block,fun b hlt=>?_,fun b hlt e=>(by cases e)⟩;have h1:b<w1.heap.size:=Nat.lt_of_lt_of_le hlt ga.size;show PC b=none;rw[hPC];have h2:=owned_none (σ:=V.σ) rc (hlow b h1);unfold owned at h2;obtain⟨n1,n2⟩:=Bool.or_eq_false_iff.1 h2;exact mark_none n1 (by rw[n2,owned_none (σ:=W.σ) ra (ga.lab b hlt)];rfl)
end
variable {A:Book} {σ:St} {w:World}
def okS (σ:St):S→Bool
 |.now=>decide (σ.word 0<18446744073709551616)
 |.live s=>decide (s<8)
 |.head key=>decide (key≤63)
 |.visit _ _ link=>vl σ link&&small σ (wslot link 0)
 |.maker _ _ _ id=>decide (id≤2000)&&small σ (σ.place id)
 |.garbage _ _ link _=>vl σ link&&small σ (wslot link 1)
 |.on key link=>decide (key≤63)&&vl σ link
 |.unlink _ _ link=>vl σ link
 |.cut key ahead link _=>decide (key≤63)&&((decide (ahead=0)||vl σ ahead)&&decide (σ.cut.length<1000000))
theorem SRep.enter {e:Nat} {L:Lab} {w:World} {v:Value}:∀ {k:S},SRep e L w v (some k)→∃ f b c,v=.func (.func f) b c∧∀ args w,(callFunc f args).run Tryz.prog w=.ok (.enter f args) w
 |.now,h=>⟨_,_,_,h,fun _ _=>by kernel_rfl⟩
 |.live _,h=>let ⟨_,_,e,_⟩:=h;⟨_,_,_,e,fun _ _=>by kernel_rfl⟩
 |.head _,h=>let ⟨_,_,e,_⟩:=h;⟨_,_,_,e,fun _ _=>by kernel_rfl⟩
 |.visit _ _ _,h=>let ⟨_,_,_,_,e,_⟩:=h;⟨_,_,_,e,fun _ _=>by kernel_rfl⟩
 |.maker _ _ _ _,h=>let ⟨_,_,_,_,_,e,_⟩:=h;⟨_,_,_,e,fun _ _=>by kernel_rfl⟩
 |.garbage _ _ _ _,h=>let ⟨_,_,_,_,_,e,_⟩:=h;⟨_,_,_,e,fun _ _=>by kernel_rfl⟩
 |.on _ _,h=>let ⟨_,_,_,e,_⟩:=h;⟨_,_,_,e,fun _ _=>by kernel_rfl⟩
 |.unlink _ _ _,h=>let ⟨_,_,_,_,e,_⟩:=h;⟨_,_,_,e,fun _ _=>by kernel_rfl⟩
 |.cut _ _ _ _,h=>let ⟨_,_,_,_,_,e,_⟩:=h;⟨_,_,_,e,fun _ _=>by kernel_rfl⟩
theorem sRuns (hR:Rep A σ w) (hck:CutOk A σ.cut) (hcnt:σ.count<3000000000000000000):∀ (k:S) (_:okS σ k=true) (f:FuncId) (b c:Array Value),SRep A.be A.L w (.func (.func f) b c) (some k)→Calls Tryz.prog f (b++c) w (SRan A σ w (σ.sweepRun k))
 |.now,h,f,b,c,hs=>by
  obtain⟨rfl,rfl,rfl⟩:=func_inj hs;exact sw_now hR (by omega) (of_decide_eq_true h)
 |.live s,h,f,b,c,hs=>by
  obtain⟨b0,b1,e,k0,k1⟩:=hs;obtain⟨rfl,rfl,rfl⟩:=func_inj e;exact k_live hR s (of_decide_eq_true h) (by omega) b0 b1 k0 k1
 |.head key,h,f,b,c,hs=>by
  obtain⟨b0,b1,e,k0,k1⟩:=hs;obtain⟨rfl,rfl,rfl⟩:=func_inj e;exact k_head hR key (of_decide_eq_true h) (by omega) b0 b1 k0 k1
 |.visit key ahead link,h,f,b,c,hs=>by
  obtain⟨b0,b1,b2,b3,e,k0,k1,k2,k3⟩:=hs;obtain⟨rfl,rfl,rfl⟩:=func_inj e;obtain⟨h1,h2⟩:=and_ok h
  by_cases hx:(rd (σ.word (wslot link 0))).1=2
  · exact k_svisit_y hR key ahead link (vl_iff h1) (small_iff h2) (by simp[hx]) (by omega) b0 b1 b2 b3 k0 k1 k2 k3
  · exact k_svisit_n hR key ahead link (vl_iff h1) (small_iff h2) (by simp[hx]) (by omega) b0 b1 b2 b3 k0 k1 k2 k3
 |.maker key ahead link id,h,f,b,c,hs=>by
  obtain⟨b0,b1,b2,b3,b4,e,k0,k1,k2,k3,k4⟩:=hs;obtain⟨rfl,rfl,rfl⟩:=func_inj e;obtain⟨h1,h2⟩:=and_ok h;have hid:=of_decide_eq_true h1
  by_cases hx:stateOf (σ.word (σ.place id))=4
  · exact k_smaker_y hR key ahead link id (by omega) (place_lt hR hid) (small_iff h2) (by simp[hx]) (by omega) b0 b1 b2 b3 b4 k0 k1 k2 k3 k4
  · exact k_smaker_n hR key ahead link id (by omega) (place_lt hR hid) (small_iff h2) (by simp[hx]) (by omega) b0 b1 b2 b3 b4 k0 k1 k2 k3 k4
 |.garbage key ahead link bb,h,f,b,c,hs=>by
  obtain⟨b0,b1,b2,b3,b4,e,k0,k1,k2,k3,k4⟩:=hs;obtain⟨rfl,rfl,rfl⟩:=func_inj e;obtain⟨h1,h2⟩:=and_ok h
  cases hx:garbage (σ.word (wslot link 1)) σ.low with
  |true=>exact k_garbage_y hR key ahead link bb (vl_iff h1) (small_iff h2) hx (by omega) b0 b1 b2 b3 b4 k0 k1 k2 k3 k4
  |false=>exact k_garbage_n hR key ahead link bb (vl_iff h1) (small_iff h2) hx (by omega) b0 b1 b2 b3 b4 k0 k1 k2 k3 k4
 |.on key link,h,f,b,c,hs=>by
  obtain⟨b0,b1,b2,e,k0,k1,k2⟩:=hs;obtain⟨rfl,rfl,rfl⟩:=func_inj e;obtain⟨h1,h2⟩:=and_ok h;exact k_on hR key link (of_decide_eq_true h1) (vl_iff h2) (by omega) b0 b1 b2 k0 k1 k2
 |.unlink key ahead link,h,f,b,c,hs=>by
  obtain⟨b0,b1,b2,b3,e,k0,k1,k2,k3⟩:=hs;obtain⟨rfl,rfl,rfl⟩:=func_inj e;exact k_unlink hR key ahead link (vl_iff h) (by omega) b0 b1 b2 b3 k0 k1 k2 k3
 |.cut key ahead link nx,h,f,b,c,hs=>by
  obtain⟨b0,b1,b2,b3,b4,e,k0,k1,k2,k3,k4⟩:=hs;obtain⟨rfl,rfl,rfl⟩:=func_inj e;obtain⟨h1,h⟩:=and_ok h;obtain⟨h2,h3⟩:=and_ok h;have hln:=of_decide_eq_true h3;rw[Bool.or_eq_true,decide_eq_true_eq] at h2
  by_cases ha:ahead=0
  · by_cases hw:σ.word (9+key)=link
    · exact k_cut_on hR key ahead link nx (of_decide_eq_true h1) (.inl ⟨ha,hw⟩) hck hln (by omega) b0 b1 b2 b3 b4 k0 k1 k2 k3 k4
    · exact k_cut_miss hR key ahead link nx (of_decide_eq_true h1) ha hw (by omega) b0 b1 b2 b3 b4 k0 k1 k2 k3 k4
  · exact k_cut_on hR key ahead link nx (of_decide_eq_true h1) (.inr (vl_iff (h2.resolve_left ha))) hck hln (by omega) b0 b1 b2 b3 b4 k0 k1 k2 k3 k4
theorem sweepRun_keeps (σ:St) (k:S):(σ.sweepRun k).1.calls=σ.calls∧(σ.sweepRun k).1.count=σ.count+1∧(σ.sweepRun k).1.looks=σ.looks:=by
 cases k<;>simp only[St.sweepRun]<;>(repeat' split)<;>exact⟨rfl,rfl,rfl⟩
theorem Live.sonly {A A':Book} {σ σ':St} {w w':World} (hL:Live A σ w) (r:Rep A' σ' w') (g:Grow A.L w A'.L w') (s:SOnly A A') (hc:σ'.calls=σ.calls) (sx:SwRep A' σ' w'):Live A' σ' w':=by
 obtain⟨⟨L,v,c,f,m,hc',gc,cs,rfl⟩,hm⟩:=s;have ek:∀ s,kp {A with L:=L,vsweep:=v,vcut:=c,vfree:=f,mp:=m,hcut:=hc',gcut:=gc,cutCs:=cs} σ' s=kp A σ s:=fun s=>by unfold kp St.c;rw[hc]
 refine⟨r,hm.trans hL.mp,hL.mt,fun s h c hcs=>?_,fun s h hcs=>hL.idle s h (by rw[←hc];exact hcs),sx⟩;obtain⟨e1,k,e2,e3⟩:=hL.call s h c (by rw[←hc];exact hcs);exact⟨e1,k,e2,by rw[ek];exact e3.grow g⟩
def Swept (A:Book) (w:World) (σ':St) (x:Bool):Ending→World→Prop:=fun e w'=>e=.returned (.bool x)∧∃ A',SOnly A A'∧Live A' σ' w'∧Grow A.L w A'.L w'
def GiveNo (σ:St):Prop:=∀ A w,Live A σ w→Calls Tryz.prog 59 #[.pointer (some ⟨A.be,0,none⟩)] w fun e w'=>e=.returned (.bool false)∧Below w.heap.size w w'
theorem fnNe (f:FuncId) (b c:Array Value) (w:World):(binOp .eql 48 (.func (.func f) b c) .nilFunc).run Tryz.prog w=.ok (.bool false) w:=by rfl
theorem fnEq (w:World):(binOp .eql 48 .nilFunc .nilFunc).run Tryz.prog w=.ok (.bool true) w:=by rfl
theorem sweep_some (hL:Live A σ w) (k:S) (hsw:σ.sw=some k) (hgn:GiveNo σ) (hcnt:σ.count<3000000000000000000) (hlk:σ.looks<1000000000000000000) (hok:okS σ k=true):
 Calls Tryz.prog 24 #[.pointer (some ⟨A.be,0,none⟩)] w (Swept A w ({(σ.sweepRun k).1 with looks:=σ.looks+1}) (σ.sweepRun k).2):=by
 obtain⟨r2,g2,f0,f1⟩:=allocs2 hL.rep #[.pointer (some ⟨A.be,0,none⟩)] 31 #[zi (σ.count:Int)] 3;have hcn:=zH ((count_any (hL.rep.alloc (.cells #[.pointer (some ⟨A.be,0,none⟩)] 31)) (by omega)).mono (fun e w9 h=>(⟨h.1,h.2.symm⟩:e=_∧w9=w.alloc (.cells #[.pointer (some ⟨A.be,0,none⟩)] 31))));have e2:(w.alloc (.cells #[.pointer (some ⟨A.be,0,none⟩)] 31)).cell? ⟨A.be,2,none⟩=some (.pointer (some ⟨A.ba,0,none⟩)):=(hL.rep.alloc _).eng 2 rfl;have y0:=f0.cell 0 (v:=.pointer (some ⟨A.be,0,none⟩)) rfl;have hS:=hL.sx.sw;have hC:CRow A σ w:=hL.sx.cu;have HG:=zH (hgn A _ (hL.world r2 g2));rw[hsw] at hS;obtain⟨fv,fb,fc,hv,he⟩:=hS.enter;obtain⟨hk1,hk2,hk3⟩:=sweepRun_keeps σ k
 have H3 : Hid (∀ w3, Below ((w.alloc (.cells #[.pointer (some ⟨A.be, 0, none⟩)] 31)).alloc (.cells #[zi (σ.count : Int)] 3)).heap.size ((w.alloc (.cells #[.pointer (some ⟨A.be, 0, none⟩)] 31)).alloc (.cells #[zi (σ.count : Int)] 3)) w3 →
     w3.cell? ⟨w.heap.size,0,none⟩=some (.pointer (some ⟨A.be,0,none⟩))∧w3.cell? ⟨A.be,25,none⟩=some (.func (.func fv) fb fc)∧Calls Tryz.prog fv (fb++fc) w3 (fun e w4=>e=.returned (.bool (σ.sweepRun k).2)∧∃ A',SOnly A A'∧Rep A' (σ.sweepRun k).1 w4∧Grow A.L w A'.L w4∧SRep A'.be A'.L w4 (A'.sv (σ.sweepRun k).1.sw) (σ.sweepRun k).1.sw∧CRow A' (σ.sweepRun k).1 w4∧Box A'.L w4 w.heap.size (.pointer (some ⟨A'.be,0,none⟩))∧Box A'.L w4 (w.heap.size+1) (zi (σ.count:Int)))):=by
  intro w3 hb;have gb:=Grow.below (L:=A.L) hb;have r3:=r2.below hb;have c25:=r3.eng 25 (v:=A.sv σ.sw) rfl;rw[hsw,hv] at c25;refine⟨(f0.grow gb).cell 0 rfl,c25,?_⟩;have hS3:=hS.grow (g2.trans gb);rw[hv] at hS3;refine (sRuns r3 hC hcnt k hok fv fb fc hS3).mono ?_;rintro e w4 ⟨rfl,A',s1,s2,s3,s4,s5⟩;have hbe:A'.be=A.be:=by obtain⟨⟨L,v,c,f,m,hc',gc,cs,rfl⟩,_⟩:=s1;rfl
  exact⟨rfl,A',s1,s2,(g2.trans gb).trans s3,s4,s5 (hC.keep rfl rfl (g2.trans gb)),by rw[hbe];exact ((f0.grow gb).grow s3).box,((f1.grow gb).grow s3).box⟩
 have HLH:=zH (zA hL (zA hcnt (zA hlk (zA hk1 (zA hk2 hk3)))));clear r2 g2 f0 f1 hL hS hC hgn hcnt hlk hok hv hsw hk1 hk2 hk3;generalize σ.sweepRun k=rr at*;have hne:=fnNe fv fb fc
 go_enter_defers Tryz.func24,Tryz.ntmps24
 go_wp2_with (first|(go_at_call 57;refine hcn.out.mono ?_;rintro e w1 ⟨rfl,rfl⟩)|(go_at_call 59;refine HG.out.mono ?_;rintro e w3 ⟨rfl,hb⟩;obtain⟨x0,x25,hc⟩:=H3.out w3 hb;have HC:=zH hc;clear hc hb));refine HC.out.mono ?_;rintro e w4 ⟨rfl,A',s1,s2,s3,s4,s5,B0,B1⟩;have HD:=zH (sweep_countD s2 σ.count 1 HLH.out.2.2.2.2.1 (by rw[HLH.out.2.2.2.2.1];have:=HLH.out.2.1;omega) (by rw[HLH.out.2.2.2.2.2];exact HLH.out.2.2.1) (by omega) _ _ B0 B1);have HS:=zH (zA s1 (zA s2 (zA s3 (zA s4 s5))));clear s1 s2 s3 s4 s5 B0 B1 HC;go_wp2;refine leaves_cons (f:=58) (args:=#[.pointer (some ⟨w.heap.size,0,none⟩),.pointer (some ⟨w.heap.size+1,0,none⟩)]) (by simp) (by simp[go_sem]) ?_;refine HD.out.mono ?_;rintro e u w5 ⟨rfl,rfl,r5,g5⟩;simp[Leaves,settle,results,Tryz.results24];obtain⟨s1,s2,s3,s4,s5⟩:=HS.out;obtain⟨hL,_,_,hk1,hk2,hk3⟩:=HLH.out;rw[hk3] at r5;exact⟨rfl,A',s1,hL.sonly r5 (s3.trans g5) s1 hk1 ⟨s4.grow g5,s5⟩,s3.trans g5⟩
theorem sweep_none (hL:Live A σ w) (hsw:σ.sw=none) (hgn:GiveNo σ) (hcnt:σ.count<3000000000000000000) (hlk:σ.looks<1000000000000000000) (hok:okS σ .now=true):
 Calls Tryz.prog 24 #[.pointer (some ⟨A.be,0,none⟩)] w (Swept A w ({(σ.sweepRun .now).1 with looks:=σ.looks+1}) (σ.sweepRun .now).2):=by
 obtain⟨r2,g2,f0,f1⟩:=allocs2 hL.rep #[.pointer (some ⟨A.be,0,none⟩)] 31 #[zi (σ.count:Int)] 3;have hcn:=zH ((count_any (hL.rep.alloc (.cells #[.pointer (some ⟨A.be,0,none⟩)] 31)) (by omega)).mono (fun e w9 h=>(⟨h.1,h.2.symm⟩:e=_∧w9=w.alloc (.cells #[.pointer (some ⟨A.be,0,none⟩)] 31))));have e2:(w.alloc (.cells #[.pointer (some ⟨A.be,0,none⟩)] 31)).cell? ⟨A.be,2,none⟩=some (.pointer (some ⟨A.ba,0,none⟩)):=(hL.rep.alloc _).eng 2 rfl;have y0:=f0.cell 0 (v:=.pointer (some ⟨A.be,0,none⟩)) rfl;have hC:CRow A σ w:=hL.sx.cu;have HG:=zH (hgn A _ (hL.world r2 g2));have he:∀ args w,(callFunc 60 args).run Tryz.prog w=.ok (.enter 60 args) w:=fun _ _=>by kernel_rfl
 obtain⟨hk1,hk2,hk3⟩:=sweepRun_keeps σ .now
 have H3 : Hid (∀ w3, Below ((w.alloc (.cells #[.pointer (some ⟨A.be, 0, none⟩)] 31)).alloc (.cells #[zi (σ.count : Int)] 3)).heap.size ((w.alloc (.cells #[.pointer (some ⟨A.be, 0, none⟩)] 31)).alloc (.cells #[zi (σ.count : Int)] 3)) w3 →
     w3.cell? ⟨w.heap.size,0,none⟩=some (.pointer (some ⟨A.be,0,none⟩))∧w3.cell? ⟨A.be,25,none⟩=some .nilFunc∧w3.frozen? ⟨A.be,25,none⟩=false∧(w3.setCell ⟨A.be,25,none⟩ (.func (.func 60) #[.pointer (some ⟨A.be,0,none⟩)] #[])).cell? ⟨w.heap.size,0,none⟩=some (.pointer (some ⟨A.be,0,none⟩))∧(w3.setCell ⟨A.be,25,none⟩ (.func (.func 60) #[.pointer (some ⟨A.be,0,none⟩)] #[])).cell? ⟨A.be,25,none⟩=some (.func (.func 60) #[.pointer (some ⟨A.be,0,none⟩)] #[])∧Calls Tryz.prog 60 #[.pointer (some ⟨A.be,0,none⟩)] (w3.setCell ⟨A.be,25,none⟩ (.func (.func 60) #[.pointer (some ⟨A.be,0,none⟩)] #[])) (fun e w4=>e=.returned (.bool (σ.sweepRun .now).2)∧∃ A',SOnly A A'∧Rep A' (σ.sweepRun .now).1 w4∧Grow A.L w A'.L w4∧SRep A'.be A'.L w4 (A'.sv (σ.sweepRun .now).1.sw) (σ.sweepRun .now).1.sw∧CRow A' (σ.sweepRun .now).1 w4∧Box A'.L w4 w.heap.size (.pointer (some ⟨A'.be,0,none⟩))∧Box A'.L w4 (w.heap.size+1) (zi (σ.count:Int)))):=by
  intro w3 hb;have gb:=Grow.below (L:=A.L) hb;have r3:=r2.below hb;have c25:=r3.eng 25 (v:=A.sv σ.sw) rfl;rw[hsw] at c25;have hv:A.sv (none:Option S)=.nilFunc:=rfl;rw[hv] at c25;have z25:=r3.engF 25;obtain⟨r4,g4⟩:=r3.sweepSet (.func (.func 60) #[.pointer (some ⟨A.be,0,none⟩)] #[]) .now;refine⟨(f0.grow gb).cell 0 rfl,c25,z25,((f0.grow gb).grow g4).cell 0 rfl,World.cell?_setCell_same _ _ _ c25,?_⟩;refine (sw_now r4 (by show σ.count<_;omega) (of_decide_eq_true hok)).mono ?_;rintro e w4 ⟨rfl,A',s1,s2,s3,s4,s5⟩;have hs0:SOnly A {A with vsweep:=.func (.func 60) #[.pointer (some ⟨A.be,0,none⟩)] #[]}:=⟨⟨_,_,_,_,_,_,_,_,rfl⟩,rfl⟩
  have hbe:A'.be=A.be:=by obtain⟨⟨L,v,c,f,m,hc',gc,cs,rfl⟩,_⟩:=s1;rfl
  have hC3:CRow {A with vsweep:=.func (.func 60) #[.pointer (some ⟨A.be,0,none⟩)] #[]} ({σ with sw:=some .now}:St) (w3.setCell ⟨A.be,25,none⟩ (.func (.func 60) #[.pointer (some ⟨A.be,0,none⟩)] #[])):=hC.keep rfl rfl ((g2.trans gb).trans g4);exact⟨rfl,A',hs0.trans s1,s2,((g2.trans gb).trans g4).trans s3,s4,s5 hC3,by rw[hbe];exact (((f0.grow gb).grow g4).grow s3).box,(((f1.grow gb).grow g4).grow s3).box⟩
 have HLH:=zH (zA hL (zA hcnt (zA hlk (zA hk1 (zA hk2 hk3)))));clear r2 g2 f0 f1 hL hC hgn hcnt hlk hok hsw hk1 hk2 hk3;generalize σ.sweepRun .now=rr at*;have heq:=fnEq
 go_enter_defers Tryz.func24,Tryz.ntmps24
 go_wp2_with (first|(go_at_call 57;refine hcn.out.mono ?_;rintro e w1 ⟨rfl,rfl⟩)|(go_at_call 59;refine HG.out.mono ?_;rintro e w3 ⟨rfl,hb⟩;obtain⟨x0,x25,z25,q0,q25,hc⟩:=H3.out w3 hb;have HC:=zH hc;clear hc hb));refine HC.out.mono ?_;rintro e w4 ⟨rfl,A',s1,s2,s3,s4,s5,B0,B1⟩;have HD:=zH (sweep_countD s2 σ.count 1 HLH.out.2.2.2.2.1 (by rw[HLH.out.2.2.2.2.1];have:=HLH.out.2.1;omega) (by rw[HLH.out.2.2.2.2.2];exact HLH.out.2.2.1) (by omega) _ _ B0 B1);have HS:=zH (zA s1 (zA s2 (zA s3 (zA s4 s5))));clear s1 s2 s3 s4 s5 B0 B1 HC;go_wp2;refine leaves_cons (f:=58) (args:=#[.pointer (some ⟨w.heap.size,0,none⟩),.pointer (some ⟨w.heap.size+1,0,none⟩)]) (by simp) (by simp[go_sem]) ?_;refine HD.out.mono ?_;rintro e u w5 ⟨rfl,rfl,r5,g5⟩;simp[Leaves,settle,results,Tryz.results24];obtain⟨s1,s2,s3,s4,s5⟩:=HS.out;obtain⟨hL,_,_,hk1,hk2,hk3⟩:=HLH.out;rw[hk3] at r5;exact⟨rfl,A',s1,hL.sonly r5 (s3.trans g5) s1 hk1 ⟨s4.grow g5,s5⟩,s3.trans g5⟩
theorem give_tags (σ:St) (link:Nat):(σ.give link).calls=σ.calls∧(σ.give link).count=σ.count∧(σ.give link).looks=σ.looks∧(σ.give link).sw=σ.sw:=by
 unfold St.give;dsimp only
 split
 · split<;>exact⟨rfl,rfl,rfl,rfl⟩
 · exact⟨rfl,rfl,rfl,rfl⟩
theorem sweep_give (hL:Live A σ w) (link seq:Nat) (rest:List (Nat×Nat)) (hv:VL σ link) (hp:PoolOk σ) (hcut:σ.cut=(link,seq)::rest) (hln:σ.cut.length<1000000) (hall:∀ q,q<8→behind seq (σ.calls.getD q none)=true) (hcnt:σ.count<3000000000000000000) (hlk:σ.looks<1000000000000000000):
 Calls Tryz.prog 24 #[.pointer (some ⟨A.be,0,none⟩)] w (Swept A w ({σ.give link with cut:=rest}) true):=by
 obtain⟨r2,g2,f0,f1⟩:=allocs2 hL.rep #[.pointer (some ⟨A.be,0,none⟩)] 31 #[zi (σ.count:Int)] 3;have hcn:=zH ((count_any (hL.rep.alloc (.cells #[.pointer (some ⟨A.be,0,none⟩)] 31)) (by omega)).mono (fun e w9 h=>(⟨h.1,h.2.symm⟩:e=_∧w9=w.alloc (.cells #[.pointer (some ⟨A.be,0,none⟩)] 31))));have e2:(w.alloc (.cells #[.pointer (some ⟨A.be,0,none⟩)] 31)).cell? ⟨A.be,2,none⟩=some (.pointer (some ⟨A.ba,0,none⟩)):=(hL.rep.alloc _).eng 2 rfl;have y0:=f0.cell 0 (v:=.pointer (some ⟨A.be,0,none⟩)) rfl;obtain⟨k1,k2,k3,k4⟩:=give_tags σ link;have hS:=hL.sx.sw
 have HG := zH ((give_some (hL.world r2 g2) link seq rest hv hp hcut hln).mono (fun e w3 h => (by
   rcases h with ⟨q,hq,hqf,_⟩|⟨_,h1,A',s1,s0,s2,s3,s5⟩
   · rw[hall q hq] at hqf;cases hqf
   have hbe:A'.be=A.be:=by obtain⟨⟨L,v,c,f,m,hc',gc,cs,rfl⟩,_⟩:=s1;rfl
   refine⟨h1,A',s1,s2,g2.trans s3,?_,s5,by rw[hbe];exact (f0.grow s3).box,(f1.grow s3).box⟩
   have h9:=hS.grow (g2.trans s3)
   have e9:A'.sv σ.sw=A.sv σ.sw:=by unfold Book.sv;rw[s0]
   rw[hbe,e9]
   exact h9:e=.returned (.bool true)∧∃ A',SOnly A A'∧Rep A' {σ.give link with cut:=rest} w3∧Grow A.L w A'.L w3∧SRep A'.be A'.L w3 (A'.sv σ.sw) σ.sw∧CutOk A' rest∧Box A'.L w3 w.heap.size (.pointer (some ⟨A'.be,0,none⟩))∧Box A'.L w3 (w.heap.size+1) (zi (σ.count:Int)))))
 have HLH:=zH (zA hL (zA hcnt (zA hlk (zA k1 (zA k2 (zA k3 k4))))));clear r2 g2 f0 f1 hL hS hcut hln hall hcnt hlk hv hp k1 k2 k3 k4
 go_enter_defers Tryz.func24,Tryz.ntmps24
 go_wp2_with (first|(go_at_call 57;refine hcn.out.mono ?_;rintro e w1 ⟨rfl,rfl⟩)|(go_at_call 59;refine HG.out.mono ?_;rintro e w4 ⟨rfl,A',s1,s2,s3,s4,s5,B0,B1⟩;have HS:=zH (zA s1 (zA s2 (zA s3 (zA s4 s5))));have HD:=zH (sweep_countD s2 σ.count 0 HLH.out.2.2.2.2.1 (by show (σ.give link).count<_;rw[HLH.out.2.2.2.2.1];have:=HLH.out.2.1;omega) (by show (σ.give link).looks<_;rw[HLH.out.2.2.2.2.2.1];exact HLH.out.2.2.1) (by omega) _ _ B0 B1);clear s1 s2 s3 s4 s5 B0 B1));refine leaves_cons (f:=58) (args:=#[.pointer (some ⟨w.heap.size,0,none⟩),.pointer (some ⟨w.heap.size+1,0,none⟩)]) (by simp) (by simp[go_sem]) ?_;refine HD.out.mono ?_;rintro e u w5 ⟨rfl,rfl,r5,g5⟩;simp[Leaves,settle,results,Tryz.results24];obtain⟨s1,s2,s3,s4,s5⟩:=HS.out;obtain⟨hL,_,_,k1,k2,k3,k4⟩:=HLH.out;refine⟨rfl,A',s1,hL.sonly r5 (s3.trans g5) s1 k1 ⟨?_,s5⟩,s3.trans g5⟩;show SRep A'.be A'.L w5 (A'.sv (σ.give link).sw) (σ.give link).sw;rw[k4];exact s4.grow g5
def okSweep (σ:St):Bool:=okS σ (σ.sw.getD .now)&&(okPool σ&&(σ.cut.all (fun p=>vl σ p.1)&&(decide (σ.cut.length<1000000)&&(decide (σ.count<3000000000000000000)&&(decide (σ.looks<1000000000000000000)&&decide (σ.calls.length=8))))))
theorem behind_all {σ:St} {seq:Nat} (h8:σ.calls.length=8):(σ.calls.all (fun c=>match c with|some c=>seq<c.seq|none=>true))=true↔∀ q,q<8→behind seq (σ.calls.getD q none)=true:=by
 rw[List.all_eq_true];refine⟨fun h q hq=>?_,fun h c hc=>?_⟩
 · have hl:q<σ.calls.length:=by omega
   have:=h _ (List.getElem_mem hl);rw[List.getD_eq_getElem?_getD,List.getElem?_eq_getElem hl];show behind seq σ.calls[q]=true;unfold behind
   cases e:σ.calls[q] with
   |none=>rfl
   |some c=>rw[e] at this;simpa using this
 · obtain⟨q,hq,rfl⟩:=List.mem_iff_getElem.1 hc
   have:=h q (by omega);rw[List.getD_eq_getElem?_getD,List.getElem?_eq_getElem hq] at this;change behind seq σ.calls[q]=true at this;unfold behind at this
   cases e:σ.calls[q] with
   |none=>rfl
   |some c=>rw[e] at this;simpa using this
theorem giveNo_nil {σ:St} (h:σ.cut=[]):GiveNo σ:=fun A w hL=>give_none hL.rep hL.sx.cu h
theorem giveNo_call {σ:St} {link seq:Nat} {rest:List (Nat×Nat)} (hv:VL σ link) (hp:okPool σ=true) (hcut:σ.cut=(link,seq)::rest) (hln:σ.cut.length<1000000) (h8:σ.calls.length=8) (h:(σ.calls.all (fun c=>match c with|some c=>seq<c.seq|none=>true))=false):GiveNo σ:=fun A w hL=>by
 refine (give_some hL link seq rest hv (okPool_iff hL.rep.nt hp) hcut hln).mono (fun e w3 hh=>?_)
 rcases hh with ⟨q,_,_,h1,h2⟩|⟨h1,_⟩
 · exact⟨h1,h2⟩
 · rw[(behind_all h8).2 h1] at h;cases h
theorem sweep_any (hL:Live A σ w) (hok:okSweep σ=true):
 Calls Tryz.prog 24 #[.pointer (some ⟨A.be,0,none⟩)] w (Swept A w σ.sweep.1 σ.sweep.2):=by
 unfold okSweep at hok;simp only[Bool.and_eq_true,decide_eq_true_eq,List.all_eq_true] at hok;obtain⟨h1,h2,h3,h4,h5,h6,h8⟩:=hok;have hgo:GiveNo σ→Calls Tryz.prog 24 #[.pointer (some ⟨A.be,0,none⟩)] w (Swept A w (St.sweep.go σ).1 (St.sweep.go σ).2):=fun hg=>by
  have e:∀ k:S,(σ.sweepRun k).1.looks+((σ.sweepRun k).1.count - σ.count)=σ.looks+1:=fun k=>by
   obtain⟨-,e2,e3⟩:=sweepRun_keeps σ k;rw[e2,e3];omega
  cases hsw:σ.sw with
  |none=>
   rw[hsw] at h1;have:=sweep_none hL hsw hg h5 h6 h1;unfold St.sweep.go;rw[hsw];show Calls _ _ _ w (Swept A w {(σ.sweepRun .now).1 with looks:=(σ.sweepRun .now).1.looks+((σ.sweepRun .now).1.count - σ.count)} _);rw[e];exact this
  |some k=>
   rw[hsw] at h1;have:=sweep_some hL k hsw hg h5 h6 h1;unfold St.sweep.go;rw[hsw];show Calls _ _ _ w (Swept A w {(σ.sweepRun k).1 with looks:=(σ.sweepRun k).1.looks+((σ.sweepRun k).1.count - σ.count)} _);rw[e];exact this
 unfold St.sweep
 split
 · rename_i link seq rest hcut
   have hv:=vl_iff (h3 (link,seq) (by rw[hcut];exact List.mem_cons_self))
   split
   · rename_i hall
     exact sweep_give hL link seq rest hv (okPool_iff hL.rep.nt h2) hcut h4 ((behind_all h8).1 hall) h5 h6
   · rename_i hall
     exact hgo (giveNo_call hv h2 hcut h4 h8 (Bool.eq_false_iff.2 hall))
 · rename_i hcut
   exact hgo (giveNo_nil hcut)
def PS (w w':World):Prop:=∀ (g:Nat) (cs:Array Value),w.heap[g]? =some (Obj.cells cs 120)→w'.heap[g]? =w.heap[g]?
theorem PS.trans {w w1 w2:World} (h:PS w w1) (k:PS w1 w2):PS w w2:=fun g cs hg=>(k g cs ((h g cs hg).trans hg)).trans (h g cs hg)
theorem PS.below {w w':World} (h:Below w.heap.size w w'):PS w w':=fun g cs hg=>h.block g (lt_of hg)
theorem PS.grown {w w' : World} {ob : Option Nat} (h : w.grownBy w' ob) (ht : ∀ (g : Nat), ob = some g → ∃ (cs : Array Value) (T : TypeId), w.heap[g]? = some (Obj.cells cs T) ∧ T ≠ 120) : PS w w' := fun g cs hg => h.block g (lt_of hg) (by
  intro e
  obtain⟨cs',T,h1,h2⟩:=ht g e.symm
  rw[hg] at h1
  simp only[Option.some.injEq,Obj.cells.injEq] at h1
  exact h2 h1.2.1.symm)
theorem PS.but {w w' : World} {b : Nat} {cs : Array Value} {T : TypeId} (h : But b w w') (hb : w.heap[b]? = some (.cells cs T)) (hT : T ≠ 120) : PS w w' := fun g cs' hg => h.block g (by
  rintro rfl
  rw[hb] at hg
  simp only[Option.some.injEq,Obj.cells.injEq] at hg
  exact hT hg.2.1)
theorem own_ps {w w':World} {base:Nat} {v:Value} {n:Nat} {xs:List Value} (h:w.ownsRow base 120 2 v n xs) (hp:PS w w'):w'.ownsRow base 120 2 v n xs:=by
 rcases h.2 with ⟨e1,e2⟩|⟨g,cap',cur,hv,hb',hg,hx1,hx2,hx3,hx4⟩
 · exact⟨h.1,.inl ⟨e1,e2⟩⟩
 · exact⟨h.1,.inr ⟨g,cap',cur,hv,hb',(hp g _ hg).trans hg,hx1,hx2,hx3,hx4⟩⟩
def EvO (base:Nat) (w:World):List Ev→List Value→Prop
 |[],xs=>xs=[]
 |e::l,xs=>∃ vp ys,xs=evCs e vp++ys∧w.ownsRow base 120 2 vp e.res.pairs.length (pairCs e.res.pairs)∧EvO base w l ys
theorem EvO.ps {base:Nat} {w w':World} (hp:PS w w'):∀ {l:List Ev} {xs:List Value},EvO base w l xs→EvO base w' l xs
 |[],_,h=>h
 |_::_,_,⟨vp,ys,h1,h2,h3⟩=>⟨vp,ys,h1,own_ps h2 hp,EvO.ps hp h3⟩
theorem EvO.snoc {base:Nat} {w:World} {e:Ev} {vp:Value} (hp:w.ownsRow base 120 2 vp e.res.pairs.length (pairCs e.res.pairs)):∀ {l:List Ev} {xs:List Value},EvO base w l xs→EvO base w (l++[e]) (xs++evCs e vp)
 |[],xs,h=>by
  have h0:xs=[]:=h;subst h0;exact⟨vp,[],by simp,hp,rfl⟩
 |_::_,_,⟨v,ys,h1,h2,h3⟩=>⟨v,ys++evCs e vp,by rw[h1,List.append_assoc],h2,EvO.snoc hp h3⟩
theorem Evs.at {L:Lab} {w:World}:∀ {l:List Ev} {xs:List Value},Evs L w l xs→∀ {k:Nat} {e:Ev},l[k]? =some e→∃ vp,PRow L w vp (pairCs e.res.pairs)∧∀ j,j<12→xs[k*12+j]? =(evCs e vp)[j]?
 |[],_,_,_,_,h=>by cases h
 |e'::l,xs,⟨vp,ys,h1,h2,h3⟩,0,e,h=>by
  obtain rfl:e'=e:=by simpa using h
  refine⟨vp,h2,fun j hj=>?_⟩;rw[h1,Nat.zero_mul,Nat.zero_add,List.getElem?_append_left (by exact hj)]
 |e'::l,xs,⟨vp,ys,h1,h2,h3⟩,k+1,e,h=>by
  obtain⟨vq,g1,g2⟩:=Evs.at h3 (k:=k) (e:=e) (by simpa using h);refine⟨vq,g1,fun j hj=>?_⟩;rw[h1,List.getElem?_append_right (by show 12≤_;omega),show (k+1)*12+j - (evCs e' vp).length=k*12+j by show _ - 12=_;omega];exact g2 j hj
theorem infoEv:(Tryz.prog.info? 116).map (fun i=>(i.zero,i.size,i.bytes))=some (some (.agg #[zi 0,zi 0,zu 0,zi 0,zi 0,zi 0,zi 0,zi 0,zi 0,.slice none 0 0,zi 0,zi 0]),12,112):=by kernel_rfl
theorem own_low {w:World} {base base':Nat} {e:TypeId} {size:Nat} {v:Value} {n:Nat} {xs:List Value} (h:w.ownsRow base e size v n xs) (hb:base'≤base):w.ownsRow base' e size v n xs:=by
 rcases h.2 with ⟨e1,e2⟩|⟨g,cap',cur,hv,hb',hg,hx⟩
 · exact⟨h.1,.inl ⟨e1,e2⟩⟩
 · exact⟨h.1,.inr ⟨g,cap',cur,hv,Nat.le_trans hb hb',hg,hx⟩⟩
theorem own_head {w:World} {base:Nat} {e:TypeId} {size:Nat} {v:Value} {n:Nat} {xs:List Value} (h:w.ownsRow base e size v n xs) (hn:0<n):∃ g cap,v=.slice (some ⟨g,0,none⟩) n cap∧∃ cur,w.heap[g]? =some (.cells cur e):=by
 rcases h.2 with ⟨_,h0⟩|⟨g,cap,cur,hv,hb,hg,hnc,hcm,_⟩
 · omega
 · exact⟨g,cap,hv,cur,hg⟩
theorem tale_any (hR:Rep A σ w) (hn:σ.tale.length<100000) (hp:∀ e∈σ.tale,e.res.pairs.length≤1000000):
 Calls Tryz.prog 11 #[.pointer (some ⟨A.be,0,none⟩)] w fun e w'=>∃ v cs,e=.returned v∧w'.ownsRow w.heap.size 116 12 v σ.tale.length cs∧EvO w.heap.size w' σ.tale cs∧Below w.heap.size w w':=by
 obtain⟨ii,hii,hz0,hz1,hz2⟩:=info_parts infoEv;have e24:w.cell? ⟨A.be,24,none⟩=some A.vtale:=hR.eng 24 rfl;obtain⟨ta,tc,hv,_⟩:=Ow.own_form (hR.mem.all .tale).1;rw[hv] at e24;obtain⟨n,hnn⟩:∃ n,n=σ.tale.length:=⟨_,rfl⟩
 rw[←hnn] at hv e24 hn ⊢;have H0:=zH (zA hR (zA hn (zA hp (zA hv hnn))));clear hR hn hp hv hnn;go_enter Tryz.func11,Tryz.ntmps11;go_wp2
 go_loopw [3,11] (fun l i wr=>∃ (k:Nat) (cs:List Value),i=zi (k:Int)∧k≤n∧wr.ownsRow w.heap.size 116 12 l k cs∧EvO w.heap.size wr (σ.tale.take k) cs∧Below w.heap.size w wr) (fun _ i _=>n - (intOf i).toNat)
 case atStart=>exact⟨0,[],rfl,Nat.zero_le _,World.ownsRow_nil _ _ _ _,rfl,Below.refl _ _⟩
 case round=>
  obtain⟨k,cs,rfl,hkn,hown,hev,hb⟩:=hrel;obtain⟨la,lc,rfl,hlc1,hlc2,_⟩:=Ow.own_form hown;obtain⟨hR,hn,hp,hv,hnn⟩:=H0.out
  by_cases hlt:k<n
  · obtain⟨ev,hek⟩:∃ ev,σ.tale[k]? =some ev:=⟨_,List.getElem?_eq_getElem (by omega)⟩
    have hr:=hR.below hb;have ht:wr.ownsRow 0 116 12 A.vtale σ.tale.length A.taleCs:=(hr.mem.all .tale).1;rw[←hnn] at ht;obtain⟨gt,tc',hv',_⟩:=own_head ht (by omega);rw[hv] at hv';simp only[Value.slice.injEq] at hv';obtain⟨rfl,_,rfl⟩:=hv';obtain⟨vp,hpr,hcs⟩:=Evs.at hr.ev hek;obtain⟨pa,pn,pc,rfl⟩:=frow_form hpr.1;have hpn:ev.res.pairs.length=pn:=by
     obtain⟨_,_,_,e0,h1,_⟩:=hpr.1;simp only[Value.slice.injEq] at e0;rw[pairCs_len] at h1;omega
    have hpl:=hp ev (List.mem_of_getElem? hek);rw[hv] at ht;have hX:∀ j v,j<12→(evCs ev (.slice pa pn pc))[j]? =some v→wr.cell? ⟨gt,k*12+j,none⟩=some v:=fun j v hj hj2=>by
     rw[ht.cellAt (k*12+j) (by omega),hcs j hj];exact hj2
    have X0:=hX 0 _ (by omega) rfl;rw[Nat.add_zero] at X0;have X1:=hX 1 _ (by omega) rfl;have X2:=hX 2 _ (by omega) rfl;have X3:=hX 3 _ (by omega) rfl;have X4:=hX 4 _ (by omega) rfl;have X5:=hX 5 _ (by omega) rfl;have X6:=hX 6 _ (by omega) rfl;have X7:=hX 7 _ (by omega) rfl;have X8:=hX 8 _ (by omega) rfl;have X9:=hX 9 _ (by omega) rfl;have X10:=hX 10 _ (by omega) rfl;have X11:=hX 11 _ (by omega) rfl;have HC:Hid (∀ w1,Below wr.heap.size wr w1→Calls Tryz.prog 35 #[.agg #[zi (ev.res.e:Int),zi (ev.res.value:Int),.slice pa pn pc,zi (ev.res.over:Int),zi (ev.res.reason:Int)]] w1 fun e w'=>∃ qa qc,e=.returned (.agg #[zi (ev.res.e:Int),zi (ev.res.value:Int),.slice qa pn qc,zi (ev.res.over:Int),zi (ev.res.reason:Int)])∧w'.ownsRow w1.heap.size 120 2 (.slice qa pn qc) pn (pairCs ev.res.pairs)∧Below w1.heap.size w1 w'):=fun w1 hb1=>copied_any w1 _ _ _ _ pa pn pc ev.res.pairs (FRow.row (hpr.1.grow (Grow.below hb1))) hpn (by omega)
    have b0:((k:Int)<(n:Int))=True:=by simp;omega
    have b1:(k:Int)<(n:Int):=by omega
    have b2:(0:Int)≤(k:Int):=by omega
    have n3:IntKind.i64.wrap ((k:Int)+1)=(k:Int)+1:=by rw[IntKind.wrap_i64];omega
    have HX:=zH (zA hown (zA hev (zA hb (zA hek (zA hlt (zA hpn (zA hn hnn)))))));clear hown hev hb hek hlt hpn hn hnn hR hp hv hr ht hpr hcs hpl hX hkn;have HCA:Hid (∀ w1,w1=wr.alloc (.cells #[zi (ev.kind:Int),zi (ev.t:Int),zu (ev.n:Int),zi (ev.op.kind:Int),zi (ev.op.key:Int),zi (ev.op.hi:Int),zi (ev.op.value:Int),zi (ev.res.e:Int),zi (ev.res.value:Int),.slice pa pn pc,zi (ev.res.over:Int),zi (ev.res.reason:Int)] 116)→(w1.cell? ⟨wr.heap.size,7,none⟩=some (zi (ev.res.e:Int))∧w1.cell? ⟨wr.heap.size,8,none⟩=some (zi (ev.res.value:Int))∧w1.cell? ⟨wr.heap.size,9,none⟩=some (.slice pa pn pc)∧w1.cell? ⟨wr.heap.size,10,none⟩=some (zi (ev.res.over:Int))∧w1.cell? ⟨wr.heap.size,11,none⟩=some (zi (ev.res.reason:Int)))):=by
     rintro w1 rfl;have h:=heap_alloc_new wr (.cells #[zi (ev.kind:Int),zi (ev.t:Int),zu (ev.n:Int),zi (ev.op.kind:Int),zi (ev.op.key:Int),zi (ev.op.hi:Int),zi (ev.op.value:Int),zi (ev.res.e:Int),zi (ev.res.value:Int),.slice pa pn pc,zi (ev.res.over:Int),zi (ev.res.reason:Int)] 116);refine⟨?_,?_,?_,?_,?_⟩<;>(rw[cell_of_row _ _ _ _ _ _ h];rfl)
    go_upto_region 5 with fail
    have hb1:Below wr.heap.size wr (wr.alloc (.cells #[zi (ev.kind:Int),zi (ev.t:Int),zu (ev.n:Int),zi (ev.op.kind:Int),zi (ev.op.key:Int),zi (ev.op.hi:Int),zi (ev.op.value:Int),zi (ev.res.e:Int),zi (ev.res.value:Int),.slice pa pn pc,zi (ev.res.over:Int),zi (ev.res.reason:Int)] 116)):=(Below.refl _ _).alloc (Nat.le_refl _) _;have h1:=heap_alloc_new wr (.cells #[zi (ev.kind:Int),zi (ev.t:Int),zu (ev.n:Int),zi (ev.op.kind:Int),zi (ev.op.key:Int),zi (ev.op.hi:Int),zi (ev.op.value:Int),zi (ev.res.e:Int),zi (ev.res.value:Int),.slice pa pn pc,zi (ev.res.over:Int),zi (ev.res.reason:Int)] 116);obtain⟨y7,y8,y9,y10,y11⟩:=HCA.out _ rfl;have HCC:=zH (HC.out _ hb1);have hsz:(wr.alloc (.cells #[zi (ev.kind:Int),zi (ev.t:Int),zu (ev.n:Int),zi (ev.op.kind:Int),zi (ev.op.key:Int),zi (ev.op.hi:Int),zi (ev.op.value:Int),zi (ev.res.e:Int),zi (ev.res.value:Int),.slice pa pn pc,zi (ev.res.over:Int),zi (ev.res.reason:Int)] 116)).heap.size=wr.heap.size+1:=by simp
    have H1:=zH (zA hb1 (zA h1 hsz));clear hb1 h1 HC HCA X0 X1 X2 X3 X4 X5 X6 X7 X8 X9 X10 X11 hsz;generalize wr.alloc _=w1 at*;go_upto_region 6 with (first|(go_at_call 35;refine HCC.out.mono ?_;rintro e w2 ⟨qa,qc,rfl,q1,q2⟩;have hb2:=H1.out.1.trans (q2.mono H1.out.1.size);have h2:w2.heap[wr.heap.size]? =some (.cells #[zi (ev.kind:Int),zi (ev.t:Int),zu (ev.n:Int),zi (ev.op.kind:Int),zi (ev.op.key:Int),zi (ev.op.hi:Int),zi (ev.op.value:Int),zi (ev.res.e:Int),zi (ev.res.value:Int),.slice pa pn pc,zi (ev.res.over:Int),zi (ev.res.reason:Int)] 116):=(q2.block _ (by rw[H1.out.2.2];omega)).trans H1.out.2.1;have H2:=zH (zA q1 (zA q2 (zA hb2 h2)));have thr:=there_of h2;clear q1 q2 hb2 h2)|(refine wpList_store_mid rfl 63 (.tmp 18) (.tmp 17) rfl wr.heap.size 7 #[zi (ev.res.e:Int),zi (ev.res.value:Int),.slice qa pn qc,zi (ev.res.over:Int),zi (ev.res.reason:Int)] rfl rfl (by intro j hj;have h:=thr (7+j) (by simp at hj ⊢;omega);simpa [Nat.add_assoc] using h) (by kernel_rfl) (by simp[Value.oneCell']) ?_;generalize hws:World.setCells _ _ _ _=w3))
    obtain⟨q1,q2,hb2,h2⟩:=H2.out;have h3:w3.heap[wr.heap.size]? =some (.cells #[zi (ev.kind:Int),zi (ev.t:Int),zu (ev.n:Int),zi (ev.op.kind:Int),zi (ev.op.key:Int),zi (ev.op.hi:Int),zi (ev.op.value:Int),zi (ev.res.e:Int),zi (ev.res.value:Int),.slice qa pn qc,zi (ev.res.over:Int),zi (ev.res.reason:Int)] 116):=by
     rw[←hws];have g1:=heap_setCell_same h2 7 (zi (ev.res.e:Int));have g2:=heap_setCell_same g1 8 (zi (ev.res.value:Int));have g3:=heap_setCell_same g2 9 (.slice qa pn qc);have g4:=heap_setCell_same g3 10 (zi (ev.res.over:Int));have g5:=heap_setCell_same g4 11 (zi (ev.res.reason:Int));exact g5
    have hbut:But wr.heap.size w2 w3:=by rw[←hws];exact But.setCells _ _ _ _
    obtain⟨hown,hev,hb,hek,hlt,hpn,hn,hnn⟩:=HX.out;have hsame:∀ b,b<wr.heap.size→w3.heap[b]? =wr.heap[b]? :=fun b hb'=>(hbut.block b (by omega)).trans (hb2.block b hb')
    have hown3:=own_same (w':=w3.alloc (.cells #[zi (ev.kind:Int),zi (ev.t:Int),zu (ev.n:Int),zi (ev.op.kind:Int),zi (ev.op.key:Int),zi (ev.op.hi:Int),zi (ev.op.value:Int),zi (ev.res.e:Int),zi (ev.res.value:Int),.slice qa pn qc,zi (ev.res.over:Int),zi (ev.res.reason:Int)] 116)) hown fun g hg=>(heap_alloc_old _ _ (Nat.lt_of_lt_of_le (hown.lt g hg).2 (by rw[hbut.size];exact hb2.size))).trans (hsame g (hown.lt g hg).2)
    have ps3:PS wr (w3.alloc (.cells #[zi (ev.kind:Int),zi (ev.t:Int),zu (ev.n:Int),zi (ev.op.kind:Int),zi (ev.op.key:Int),zi (ev.op.hi:Int),zi (ev.op.value:Int),zi (ev.res.e:Int),zi (ev.res.value:Int),.slice qa pn qc,zi (ev.res.over:Int),zi (ev.res.reason:Int)] 116)):=((PS.below hb2).trans (PS.but hbut h2 (by decide))).trans (PS.below ((Below.refl _ _).alloc (Nat.le_refl _) _));have ps2:PS w2 (w3.alloc (.cells #[zi (ev.kind:Int),zi (ev.t:Int),zu (ev.n:Int),zi (ev.op.kind:Int),zi (ev.op.key:Int),zi (ev.op.hi:Int),zi (ev.op.value:Int),zi (ev.res.e:Int),zi (ev.res.value:Int),.slice qa pn qc,zi (ev.res.over:Int),zi (ev.res.reason:Int)] 116)):=(PS.but hbut h2 (by decide)).trans (PS.below ((Below.refl _ _).alloc (Nat.le_refl _) _));have hpr:(w3.alloc (.cells #[zi (ev.kind:Int),zi (ev.t:Int),zu (ev.n:Int),zi (ev.op.kind:Int),zi (ev.op.key:Int),zi (ev.op.hi:Int),zi (ev.op.value:Int),zi (ev.res.e:Int),zi (ev.res.value:Int),.slice qa pn qc,zi (ev.res.over:Int),zi (ev.res.reason:Int)] 116)).ownsRow w.heap.size 120 2 (.slice qa pn qc) pn (pairCs ev.res.pairs):=own_low (own_ps q1 ps2) (by rw[H1.out.2.2];have:=hb.size;omega);have hb3:Below w.heap.size w (w3.alloc (.cells #[zi (ev.kind:Int),zi (ev.t:Int),zu (ev.n:Int),zi (ev.op.kind:Int),zi (ev.op.key:Int),zi (ev.op.hi:Int),zi (ev.op.value:Int),zi (ev.res.e:Int),zi (ev.res.value:Int),.slice qa pn qc,zi (ev.res.over:Int),zi (ev.res.reason:Int)] 116)):=by
     refine Below.alloc ⟨?_,?_,?_,?_,?_⟩ (by rw[hbut.size];exact Nat.le_trans hb.size hb2.size) _
     · exact hbut.os.trans (hb2.os.trans hb.os)
     · exact hbut.tape.trans (hb2.tape.trans hb.tape)
     · exact hbut.output.trans (hb2.output.trans hb.output)
     · rw[hbut.size];exact Nat.le_trans hb.size hb2.size
     · exact fun b hb'=>(hsame b (Nat.lt_of_lt_of_le hb' hb.size)).trans (hb.block b hb')
    have htyp:∀ (g:Nat),(Value.slice la k lc).ownBlock=some g→∃ (cs:Array Value) (T:TypeId),(w3.alloc (.cells #[zi (ev.kind:Int),zi (ev.t:Int),zu (ev.n:Int),zi (ev.op.kind:Int),zi (ev.op.key:Int),zi (ev.op.hi:Int),zi (ev.op.value:Int),zi (ev.res.e:Int),zi (ev.res.value:Int),.slice qa pn qc,zi (ev.res.over:Int),zi (ev.res.reason:Int)] 116)).heap[g]? =some (Obj.cells cs T)∧T≠120:=fun g hg=>by
     rcases hown3.2 with ⟨e0,_⟩|⟨g',cap,cur,hv,_,hgc,_⟩
     · simp only[Value.slice.injEq] at e0
       rw[e0.1] at hg;cases hg
     · rw[hv] at hg
       obtain rfl:g'=g:=by simpa [Value.ownBlock] using hg
       exact⟨cur,_,hgc,by decide⟩
    have HZ:=zH (zA hown3 (zA (hev.ps ps3) (zA hpr (zA hb3 (zA htyp (zA hek (zA hlt (zA hpn hn))))))));have Z0:=(show w3.cell? ⟨wr.heap.size,0,none⟩=some _ by rw[cell_of_row _ _ _ _ _ _ h3];rfl)
    have Z1:=(show w3.cell? ⟨wr.heap.size,1,none⟩=some _ by rw[cell_of_row _ _ _ _ _ _ h3];rfl)
    have Z2:=(show w3.cell? ⟨wr.heap.size,2,none⟩=some _ by rw[cell_of_row _ _ _ _ _ _ h3];rfl)
    have Z3:=(show w3.cell? ⟨wr.heap.size,3,none⟩=some _ by rw[cell_of_row _ _ _ _ _ _ h3];rfl)
    have Z4:=(show w3.cell? ⟨wr.heap.size,4,none⟩=some _ by rw[cell_of_row _ _ _ _ _ _ h3];rfl)
    have Z5:=(show w3.cell? ⟨wr.heap.size,5,none⟩=some _ by rw[cell_of_row _ _ _ _ _ _ h3];rfl)
    have Z6:=(show w3.cell? ⟨wr.heap.size,6,none⟩=some _ by rw[cell_of_row _ _ _ _ _ _ h3];rfl)
    have Z7:=(show w3.cell? ⟨wr.heap.size,7,none⟩=some _ by rw[cell_of_row _ _ _ _ _ _ h3];rfl)
    have Z8:=(show w3.cell? ⟨wr.heap.size,8,none⟩=some _ by rw[cell_of_row _ _ _ _ _ _ h3];rfl)
    have Z9:=(show w3.cell? ⟨wr.heap.size,9,none⟩=some _ by rw[cell_of_row _ _ _ _ _ _ h3];rfl)
    have Z10:=(show w3.cell? ⟨wr.heap.size,10,none⟩=some _ by rw[cell_of_row _ _ _ _ _ _ h3];rfl)
    have Z11:=(show w3.cell? ⟨wr.heap.size,11,none⟩=some _ by rw[cell_of_row _ _ _ _ _ _ h3];rfl)
    clear q1 q2 hb2 h2 h3 hbut hown hev hb hek hlt hpn hn hnn hsame hown3 ps3 ps2 hpr hb3 htyp H2 HX H1 HCC hws thr y7 y8 y9 y10 y11;go_wp2_with (refine Ow.wpList_append_to _ rfl (.tmp 19) (.tmp 21) 43 rfl w.heap.size 116 ii _ 12 112 Tryz.underlying43 hii hz0 hz1 hz2 rfl (by decide) (.slice la k lc) k cs rfl HZ.out.1 ⟨w3.heap.size,0,none⟩ 1 1 (by omega) [zi (ev.kind:Int),zi (ev.t:Int),zu (ev.n:Int),zi (ev.op.kind:Int),zi (ev.op.key:Int),zi (ev.op.hi:Int),zi (ev.op.value:Int),zi (ev.res.e:Int),zi (ev.res.value:Int),.slice qa pn qc,zi (ev.res.over:Int),zi (ev.res.reason:Int)] rfl rfl (fun j u hu=>Ow.new_row w3 [zi (ev.kind:Int),zi (ev.t:Int),zu (ev.n:Int),zi (ev.op.kind:Int),zi (ev.op.key:Int),zi (ev.op.hi:Int),zi (ev.op.value:Int),zi (ev.res.e:Int),zi (ev.res.value:Int),.slice qa pn qc,zi (ev.res.over:Int),zi (ev.res.reason:Int)] _ w3.heap.size (by simp) j u hu) (by intro u hu;simp at hu;rcases hu with rfl|rfl|rfl|rfl|rfl|rfl|rfl|rfl|rfl|rfl|rfl|rfl<;>rfl) (by have:=HZ.out.2.2.2.2.2.2.1;have:=HZ.out.2.2.2.2.2.2.2.2;unfold maxLen;omega) (by have:=HZ.out.2.2.2.2.2.2.1;have:=HZ.out.2.2.2.2.2.2.2.2;omega) (HZ.out.2.2.2.1.size) ?_;intro v' w4 q1 q2 q3;obtain⟨av,cv,rfl,_⟩:=Ow.own_form q1;have HY:=zH (zA q1 q2);clear q1 q2 q3)
    go_roundw
    case rel=>
     obtain⟨z1,z2,z3,z4,z5,z6,z7,z8,z9⟩:=HZ.out;obtain⟨q1,q2⟩:=HY.out;have ps4:=PS.grown q2 z5;refine⟨k+1,cs++[zi (ev.kind:Int),zi (ev.t:Int),zu (ev.n:Int),zi (ev.op.kind:Int),zi (ev.op.key:Int),zi (ev.op.hi:Int),zi (ev.op.value:Int),zi (ev.res.e:Int),zi (ev.res.value:Int),.slice qa pn qc,zi (ev.res.over:Int),zi (ev.res.reason:Int)],rfl,z7,q1,?_,⟨q2.os.trans z4.os,q2.tape.trans z4.tape,q2.output.trans z4.output,Nat.le_trans z4.size q2.size,fun b hb=>(q2.block b (Nat.lt_of_lt_of_le hb z4.size) (fun e=>?_)).trans (z4.block b hb)⟩⟩
     · rw[List.take_add_one,z6]
       have h9:EvO w.heap.size w4 (σ.tale.take k++[ev]) (cs++evCs ev (.slice qa pn qc)):=(z2.ps ps4).snoc (by rw[z8];exact own_ps z3 ps4);exact h9
     · have:=(z1.lt b e.symm).1
       omega
    case measure=>have:=HZ.out.2.2.2.2.2.2.1;simp[intOf];omega
  · obtain rfl:k=n:=by omega
    have b0:((k:Int)<(k:Int))=False:=by simp
    have HX:=zH (zA hown (zA hev (zA hb hnn)));clear hown hev hb hnn hlt hkn hn hp hv hR;go_wp2;go_ret;obtain⟨hown,hev,hb,hnn⟩:=HX.out;rw[hnn,List.take_length] at hev;exact⟨_,cs,rfl,hown,hev,hb⟩
def EvR (w:World):List Ev→List Value→Prop
 |[],xs=>xs=[]
 |e::l,xs=>∃ a c ys,xs=evCs e (.slice a e.res.pairs.length c)++ys∧Ow.Row w 0 2 (.slice a e.res.pairs.length c) (pairCs e.res.pairs)∧EvR w l ys
theorem EvR.len {w:World}:∀ {l:List Ev} {xs:List Value},EvR w l xs→xs.length=l.length*12
 |[],_,h=>by rw[show _=_ from h];rfl
 |e::l,_,⟨a,c,ys,h1,_,h3⟩=>by rw[h1,List.length_append,EvR.len h3,List.length_cons];show 12+_=_;omega
theorem EvR.at_ {w:World}:∀ {l:List Ev} {xs:List Value} (_:EvR w l xs) (k:Nat) (e:Ev),l[k]? =some e→∃ a c,(∀ j,j<12→xs[k*12+j]? =(evCs e (.slice a e.res.pairs.length c))[j]?)∧Ow.Row w 0 2 (.slice a e.res.pairs.length c) (pairCs e.res.pairs)
 |[],_,_,k,e,hk=>by simp at hk
 |e0::l,_,⟨a,c,ys,h1,h2,h3⟩,0,e,hk=>by
  simp at hk;subst hk;refine⟨a,c,fun j hj=>?_,h2⟩;rw[h1,List.getElem?_append_left (by show 0*12+j<12;omega)];simp
 |e0::l,_,⟨a,c,ys,h1,h2,h3⟩,k+1,e,hk=>by
  obtain⟨a',c',g1,g2⟩:=EvR.at_ h3 k e (by simpa using hk);refine⟨a',c',fun j hj=>?_,g2⟩;rw[h1,List.getElem?_append_right (by show 12≤_;omega)];rw[show (k+1)*12+j - (evCs e0 (.slice a e0.res.pairs.length c)).length=k*12+j from by show _ - 12=_;omega];exact g1 j hj
theorem row_base {w:World} {base size:Nat} {v:Value} {xs:List Value} (h:Ow.Row w base size v xs):Ow.Row w 0 size v xs:=by
 obtain⟨a,n,cap,h1,h2,h3,h4,h5⟩:=h;refine⟨a,n,cap,h1,h2,h3,h4,?_⟩
 rcases h5 with h5|⟨g,off,e1,e2,e3,e4⟩
 · exact .inl h5
 · exact .inr ⟨g,off,e1,Nat.zero_le _,e3,e4⟩
theorem EvO.evR {base:Nat} {w:World}:∀ {l:List Ev} {xs:List Value},EvO base w l xs→EvR w l xs
 |[],_,h=>h
 |e::l,_,⟨vp,ys,h1,h2,h3⟩=>by
  have hr:=row_base (own_row h2);obtain⟨a,c,rfl,_⟩:=Ow.own_form h2;exact⟨a,c,ys,h1,hr,EvO.evR h3⟩
theorem EvR.below {w w':World} (hb:Below w.heap.size w w'):∀ {l:List Ev} {xs:List Value},EvR w l xs→EvR w' l xs
 |[],_,h=>h
 |e::l,_,⟨a,c,ys,h1,h2,h3⟩=>⟨a,c,ys,h1,h2.below hb,EvR.below hb h3⟩
theorem op_neq (a b c d:Int) (w:World):(binOp .neq 28 (.agg #[zi a,zi b,zi c,zi d]) (.agg #[zi a,zi b,zi c,zi d])).run Tryz.prog w=.ok (.bool false) w:=by
 go_simp
theorem same_events (va vb:Value) (l:List Ev) (ca cb:List Value) (w:World) (hA:Ow.Row w 0 12 va ca) (hB:Ow.Row w 0 12 vb cb) (eA:EvR w l ca) (eB:EvR w l cb):
 Calls Tryz.prog 10 #[va,vb] w fun e w'=>e=.returned (.bool true)∧Below w.heap.size w w':=by
 obtain⟨a,n,cap,rfl,hn,hc,hm,ha⟩:=hA;obtain⟨b,n',cap',rfl,hn',hc',hm',hb⟩:=hB;rw[eA.len] at hn;rw[eB.len] at hn';obtain rfl:n=n':=by omega
 have HX:Hid (l.length=n):=by exact (by omega:l.length=n)
 have EA:=zH eA;have EB:=zH eB;unfold maxLen at hm;have hmax:n≤9223372036854775807:=by omega
 clear hn hn' hm hm' hc hc' eA eB;go_enter Tryz.func10,Tryz.ntmps10;go_wp2
 go_loopw [5] (fun i wr=>(∃ k:Nat,k≤n∧i=zi k)∧Below w.heap.size w wr) (fun i _=>n - (intOf i).toNat)
 case atStart=>exact⟨⟨0,by omega,rfl⟩,Below.refl _ _⟩
 case round=>
  obtain⟨⟨k,hk,rfl⟩,hbel⟩:=hrel
  by_cases hlt:k<n
  · rcases ha with ha|⟨g,off,rfl,_,hg,hcell⟩
    · omega
    rcases hb with hb|⟨g',off',rfl,_,hg',hcell'⟩
    · omega
    obtain⟨e,he⟩:∃ e,l[k]? =some e:=⟨_,List.getElem?_eq_getElem (by rw[HX.out];exact hlt)⟩
    obtain⟨a1,c1,r1,s1⟩:=EA.out.at_ k e he;obtain⟨a2,c2,r2,s2⟩:=EB.out.at_ k e he;have i1:(0:Int)≤(k:Int):=by omega
    have i2:(k:Int)<(n:Int):=by omega
    obtain⟨pn,hpn⟩:∃ pn,pn=e.res.pairs.length:=⟨_,rfl⟩
    rw[←hpn] at r1 r2 s1 s2;have S1:Hid (∀ w',Below wr.heap.size wr w'→Ow.Row w' 0 2 (.slice a1 pn c1) (pairCs e.res.pairs)):=fun w' hb=>s1.below (hbel.trans (hb.mono hbel.size))
    have S2:Hid (∀ w',Below wr.heap.size wr w'→Ow.Row w' 0 2 (.slice a2 pn c2) (pairCs e.res.pairs)):=fun w' hb=>s2.below (hbel.trans (hb.mono hbel.size))
    have kA:∀ w',Below wr.heap.size wr w'→∀ j,j<12→w'.cell? ⟨g,off+(k*12+j),none⟩=(evCs e (.slice a1 pn c1))[j]? :=fun w' hb j hj=>by rw[(hbel.trans (hb.mono hbel.size)).cell (p:=⟨g,off+(k*12+j),none⟩) hg,hcell (k*12+j) (by omega)];exact r1 j hj
    have kB:∀ w',Below wr.heap.size wr w'→∀ j,j<12→w'.cell? ⟨g',off'+(k*12+j),none⟩=(evCs e (.slice a2 pn c2))[j]? :=fun w' hb j hj=>by rw[(hbel.trans (hb.mono hbel.size)).cell (p:=⟨g',off'+(k*12+j),none⟩) hg',hcell' (k*12+j) (by omega)];exact r2 j hj
    have HK:Hid (∀ w',Below wr.heap.size wr w'→w'.cell? ⟨g,off+k*12,none⟩=some (zi (e.kind:Int))∧w'.cell? ⟨g,off+k*12+1,none⟩=some (zi (e.t:Int))∧w'.cell? ⟨g,off+k*12+2,none⟩=some (zu (e.n:Int))∧w'.cell? ⟨g,off+k*12+3,none⟩=some (zi (e.op.kind:Int))∧w'.cell? ⟨g,off+k*12+4,none⟩=some (zi (e.op.key:Int))∧w'.cell? ⟨g,off+k*12+5,none⟩=some (zi (e.op.hi:Int))∧w'.cell? ⟨g,off+k*12+6,none⟩=some (zi (e.op.value:Int))∧w'.cell? ⟨g,off+k*12+7,none⟩=some (zi (e.res.e:Int))∧w'.cell? ⟨g,off+k*12+8,none⟩=some (zi (e.res.value:Int))∧w'.cell? ⟨g,off+k*12+9,none⟩=some (.slice a1 pn c1)∧w'.cell? ⟨g,off+k*12+10,none⟩=some (zi (e.res.over:Int))∧w'.cell? ⟨g,off+k*12+11,none⟩=some (zi (e.res.reason:Int))∧w'.cell? ⟨g',off'+k*12,none⟩=some (zi (e.kind:Int))∧w'.cell? ⟨g',off'+k*12+1,none⟩=some (zi (e.t:Int))∧w'.cell? ⟨g',off'+k*12+2,none⟩=some (zu (e.n:Int))∧w'.cell? ⟨g',off'+k*12+3,none⟩=some (zi (e.op.kind:Int))∧w'.cell? ⟨g',off'+k*12+4,none⟩=some (zi (e.op.key:Int))∧w'.cell? ⟨g',off'+k*12+5,none⟩=some (zi (e.op.hi:Int))∧w'.cell? ⟨g',off'+k*12+6,none⟩=some (zi (e.op.value:Int))∧w'.cell? ⟨g',off'+k*12+7,none⟩=some (zi (e.res.e:Int))∧w'.cell? ⟨g',off'+k*12+8,none⟩=some (zi (e.res.value:Int))∧w'.cell? ⟨g',off'+k*12+9,none⟩=some (.slice a2 pn c2)∧w'.cell? ⟨g',off'+k*12+10,none⟩=some (zi (e.res.over:Int))∧w'.cell? ⟨g',off'+k*12+11,none⟩=some (zi (e.res.reason:Int))):=fun w' hb=>by
     have A1:=kA w' hb;have B1:=kB w' hb;exact⟨A1 0 (by omega),A1 1 (by omega),A1 2 (by omega),A1 3 (by omega),A1 4 (by omega),A1 5 (by omega),A1 6 (by omega),A1 7 (by omega),A1 8 (by omega),A1 9 (by omega),A1 10 (by omega),A1 11 (by omega),B1 0 (by omega),B1 1 (by omega),B1 2 (by omega),B1 3 (by omega),B1 4 (by omega),B1 5 (by omega),B1 6 (by omega),B1 7 (by omega),B1 8 (by omega),B1 9 (by omega),B1 10 (by omega),B1 11 (by omega)⟩
    have HB:=zH hbel;clear hpn he r1 r2 s1 s2 kA kB hcell hcell' hbel hg hg';generalize (e.kind:Int)=z0 at*;generalize (e.t:Int)=z1 at*;generalize (e.n:Int)=z2 at*;generalize (e.op.kind:Int)=z3 at*;generalize (e.op.key:Int)=z4 at*;generalize (e.op.hi:Int)=z5 at*;generalize (e.op.value:Int)=z6 at*;generalize (e.res.e:Int)=z7 at*;generalize (e.res.value:Int)=z8 at*;generalize (e.res.over:Int)=z10 at*;generalize (e.res.reason:Int)=z11 at*;generalize e.res.pairs=ps at*;have hop:=op_neq z3 z4 z5 z6;obtain⟨y0,y1,y2,y3,y4,y5,y6,y7,y8,y9,y10,y11,y12,y13,y14,y15,y16,y17,y18,y19,y20,y21,y22,y23⟩:=HK.out wr (Below.refl _ _);go_upto_region 6 with fail
    go_region_held3 (fun w'=>w'.cell? ⟨g,off+k*12,none⟩=some (zi z0)∧w'.cell? ⟨g,off+k*12+1,none⟩=some (zi z1)∧w'.cell? ⟨g,off+k*12+2,none⟩=some (zu z2)∧w'.cell? ⟨g,off+k*12+3,none⟩=some (zi z3)∧w'.cell? ⟨g,off+k*12+4,none⟩=some (zi z4)∧w'.cell? ⟨g,off+k*12+5,none⟩=some (zi z5)∧w'.cell? ⟨g,off+k*12+6,none⟩=some (zi z6)∧w'.cell? ⟨g,off+k*12+7,none⟩=some (zi z7)∧w'.cell? ⟨g,off+k*12+8,none⟩=some (zi z8)∧w'.cell? ⟨g,off+k*12+9,none⟩=some (.slice a1 pn c1)∧w'.cell? ⟨g,off+k*12+10,none⟩=some (zi z10)∧w'.cell? ⟨g,off+k*12+11,none⟩=some (zi z11)∧w'.cell? ⟨g',off'+k*12,none⟩=some (zi z0)∧w'.cell? ⟨g',off'+k*12+1,none⟩=some (zi z1)∧w'.cell? ⟨g',off'+k*12+2,none⟩=some (zu z2)∧w'.cell? ⟨g',off'+k*12+3,none⟩=some (zi z3)∧w'.cell? ⟨g',off'+k*12+4,none⟩=some (zi z4)∧w'.cell? ⟨g',off'+k*12+5,none⟩=some (zi z5)∧w'.cell? ⟨g',off'+k*12+6,none⟩=some (zi z6)∧w'.cell? ⟨g',off'+k*12+7,none⟩=some (zi z7)∧w'.cell? ⟨g',off'+k*12+8,none⟩=some (zi z8)∧w'.cell? ⟨g',off'+k*12+9,none⟩=some (.slice a2 pn c2)∧w'.cell? ⟨g',off'+k*12+10,none⟩=some (zi z10)∧w'.cell? ⟨g',off'+k*12+11,none⟩=some (zi z11))
     (first|exact⟨y0,y1,y2,y3,y4,y5,y6,y7,y8,y9,y10,y11,y12,y13,y14,y15,y16,y17,y18,y19,y20,y21,y22,y23⟩|assumption|go_keep|exact HK.out _ (by assumption)|exact HK.out _ (Below.drew (Below.refl _ _)))
     (first|(go_at_call 34;refine (same_result z7 z8 z10 z11 a1 a2 pn c1 c2 ps _ (S1.out _ (Below.drew (Below.refl _ _))) (S2.out _ (Below.drew (Below.refl _ _)))).mono ?_;rintro e w6 ⟨rfl,hb6⟩;have hq:=(Below.drew (Below.refl wr.heap.size wr)).trans hb6))
    have HQ:=zH hq;clear hq;go_wp2_with fail;exact⟨⟨⟨k+1,by omega,by go_num⟩,HB.out.trans (HQ.out.mono HB.out.size)⟩,by simp[intOf];omega⟩
  · obtain rfl:k=n:=by omega
    go_wp2_with fail;go_ret;exact⟨rfl,hbel⟩
theorem pick_cell {w:World} {g off:Nat} {l:List Pk} (h:∀ j,j<l.length*7→w.cell? ⟨g,off+j,none⟩=(flatP l)[j]?) (i:Nat) (e:Pk) (hi:l[i]? =some e):
 ∀ f,f<7→w.cell? ⟨g,off+(i*7+f),none⟩=(pkCs e)[f]? :=by
 intro f hf;have hl:i<l.length:=(List.getElem?_eq_some_iff.1 hi).1;rw[h (i*7+f) (by omega)];have key:∀ (l:List Pk) (i:Nat),l[i]? =some e→(flatP l)[i*7+f]? =(pkCs e)[f]? :=by
  intro l
  induction l with
  |nil=>intro i hi;simp at hi
  |cons e0 l ih=>
   intro i hi;show (pkCs e0++flatP l)[i*7+f]? =_
   cases i with
   |zero=>
    simp at hi;subst hi;rw[List.getElem?_append_left (by show 0*7+f<7;omega)];simp
   |succ i=>
    rw[List.getElem?_append_right (by show 7≤_;omega)];rw[show (i+1)*7+f - (pkCs e0).length=i*7+f from by show _ - 7=_;omega];exact ih i (by simpa using hi)
 exact key l i hi
theorem row_picks {w:World} {v:Value} {l:List Pk} (h:Ow.Row w 0 7 v (flatP l)):∃ a cap,v=.slice a l.length cap∧l.length≤9223372036854775807∧∀ i e,l[i]? =some e→∃ g off,a=some ⟨g,off,none⟩∧∀ w',Below w.heap.size w w'→∀ f u,f<7→(pkCs e)[f]? =some u→w'.cell? ⟨g,off+(i*7+f),none⟩=some u:=by
 obtain⟨a,n,cap,rfl,hn,hc,hm,h5⟩:=h;rw[flatP_length] at hn;obtain rfl:n=l.length:=by omega
 unfold maxLen at hm;refine⟨a,cap,rfl,by omega,fun i e hi=>?_⟩;have hl:i<l.length:=(List.getElem?_eq_some_iff.1 hi).1
 rcases h5 with h5|⟨g,off,rfl,_,hg,hcell⟩
 · omega
 · refine⟨g,off,rfl,fun w' hb f u hf hu=>?_⟩
   rw[hb.cell (p:=⟨g,off+(i*7+f),none⟩) hg,pick_cell hcell i e hi f hf,hu]
end Go.Proofs.YtmgghljjjpcgkaaGreat.Em
