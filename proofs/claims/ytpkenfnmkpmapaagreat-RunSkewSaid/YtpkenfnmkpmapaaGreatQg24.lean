import Derived.Test.YtpkenfnmkpmapaaGreatQg23
import Derived.Deep.CutRange
namespace Go.Proofs.YtpkenfnmkpmapaaGreat.Em
open Go.ChangeShapes Go.WideShapes Go.ChangeAt Go.RowKit En
set_option linter.unusedVariables false
set_option linter.unusedSimpArgs false
set_option maxRecDepth 100000
set_option maxHeartbeats 1600000
theorem okTale_step {l:List Ev} {k:Nat} {e:Ev} {O O1:Okr} (hk:l[k]? =some e) (h:okTale (l.drop k) O=some O1):∃ O',okEv O e=some O'∧okTale (l.drop (k+1)) O'=some O1:=by
 obtain⟨hlt,he⟩:=List.getElem?_eq_some_iff.mp hk;rw[List.drop_eq_getElem_cons hlt,he] at h;simp only[okTale] at h
 cases hq:okEv O e with
 |none=>rw[hq] at h;cases h
 |some O'=>rw[hq] at h;exact⟨O',rfl,h⟩
theorem EvO.at {base:Nat} {w:World}:∀ {l:List Ev} {xs:List Value},EvO base w l xs→∀ {k:Nat} {e:Ev},l[k]? =some e→∃ vp,w.ownsRow base 134 2 vp e.res.pairs.length (pairCs e.res.pairs)∧∀ j,j<12→xs[k*12+j]? =(evCs e vp)[j]?
 |[],_,_,_,_,h=>by cases h
 |e'::l,xs,⟨vp,ys,h1,h2,h3⟩,0,e,h=>by
  obtain rfl:e'=e:=by simpa using h
  refine⟨vp,h2,fun j hj=>?_⟩;rw[h1,Nat.zero_mul,Nat.zero_add,List.getElem?_append_left (by exact hj)]
 |e'::l,xs,⟨vp,ys,h1,h2,h3⟩,k+1,e,h=>by
  obtain⟨vq,g1,g2⟩:=EvO.at h3 (k:=k) (e:=e) (by simpa using h);refine⟨vq,g1,fun j hj=>?_⟩;rw[h1,List.getElem?_append_right (by show 12≤_;omega),show (k+1)*12+j - (evCs e' vp).length=k*12+j by show _ - 12=_;omega];exact g2 j hj
theorem okEv_one {O O':Okr} {e:Ev} (h:okEv O e=some O') (hk:e.kind=1):e.t=O.deals.length+1∧O.last<e.n∧O'={O with deals:=O.deals++[⟨e.t,e.op.value,1,e.n,0,[]⟩],last:=e.n}:=by
 unfold okEv at h;rw[if_pos hk] at h
 split at h
 · rename_i hc
   exact⟨hc.1,hc.2,(Option.some.inj h).symm⟩
 · cases h
def okOdd (O O':Okr) (e:Ev) (k:Nat) (d:Dq):Prop:=
 (e.kind=2∧d.end_=0∧d.ops.length<1000∧O'={O with deals:=O.deals.set k {d with ops:=d.ops++[(e.op,e.res)]}})∨
 (e.kind=3∧d.end_=0∧O.last<e.n∧O'={O with deals:=O.deals.set k {d with end_:=e.n},last:=e.n})∨
 (e.kind=4∧∃ j c,e.n=j+1∧O.deals[j]? =some c∧j+1≤20000∧j≠k∧c.state≠4∧c.end_≠0∧(d.end_=0∨c.end_<d.end_)∧O.bonds.length<100000∧O'={O with bonds:=O.bonds++[(k+1,j+1)]})∨
 (e.kind=5∧d.end_≠0∧O.bonds.all (fun b=>b.1 !=k+1||(match b.2 with|0=>false|j+1=>match O.deals[j]? with|some c=>c.state==3|none=>false))=true∧O'={O with deals:=O.deals.set k {d with state:=3}})∨
 (e.kind=6∧O'={O with deals:=O.deals.set k {d with state:=4}})
theorem okEv_odd {O O':Okr} {e:Ev} (h:okEv O e=some O') (hk:e.kind≠1):∃ k d,e.t=k+1∧O.deals[k]? =some d∧d.state=1∧okOdd O O' e k d:=by
 unfold okEv at h;rw[if_neg hk] at h
 split at h
 · cases h
 rename_i k ht
 split at h
 · cases h
 rename_i d hd
 split at h
 case isFalse=>cases h
 rename_i hs;refine⟨k,d,ht,hd,hs,?_⟩;unfold okOdd
 split at h
 · rename_i h2
   split at h
   · rename_i hc;exact .inl ⟨h2,hc.1,hc.2,(Option.some.inj h).symm⟩
   · cases h
 split at h
 · rename_i h2
   split at h
   · rename_i hc;exact .inr (.inl ⟨h2,hc.1,hc.2,(Option.some.inj h).symm⟩)
   · cases h
 split at h
 · rename_i h2
   split at h
   · cases h
   rename_i j hn
   split at h
   · cases h
   rename_i c hc
   split at h
   · rename_i hq;exact .inr (.inr (.inl ⟨h2,j,c,hn,hc,hq.1,hq.2.1,hq.2.2.1,hq.2.2.2.1,hq.2.2.2.2.1,hq.2.2.2.2.2,(Option.some.inj h).symm⟩))
   · cases h
 split at h
 · rename_i h2
   split at h
   · rename_i hc;exact .inr (.inr (.inr (.inl ⟨h2,hc.1,hc.2,(Option.some.inj h).symm⟩)))
   · cases h
 split at h
 · rename_i h2;exact .inr (.inr (.inr (.inr ⟨h2,(Option.some.inj h).symm⟩)))
 · cases h
theorem own_typ {w:World} {base size n:Nat} {T:TypeId} {v:Value} {xs:List Value} (h:w.ownsRow base T size v n xs) {g:Nat} (hg:v.ownBlock=some g):∃ cs,w.heap[g]? =some (Obj.cells cs T):=by
 rcases h.2 with ⟨e0,_⟩|⟨g',cap,cur,hv,_,hgc,_⟩
 · rw[e0] at hg;cases hg
 · rw[hv] at hg
   obtain rfl:g'=g:=by simpa [Value.ownBlock] using hg
   exact⟨cur,hgc⟩
theorem own_other {w w' : World} {base size n : Nat} {T T' : TypeId} {v : Value} {xs : List Value} {ob : Option Nat} (h : w.ownsRow base T size v n xs) (q : w.grownBy w' ob) (ht : ∀ g, ob = some g → ∃ cs, w.heap[g]? = some (Obj.cells cs T')) (hT : T' ≠ T) : w'.ownsRow base T size v n xs := own_same h fun g hg => q.block g (h.lt g hg).2 (by
  intro e
  obtain⟨c1,h1⟩:=ht g e.symm
  obtain⟨c2,h2⟩:=own_typ h hg
  rw[h1] at h2
  simp only[Option.some.injEq,Obj.cells.injEq] at h2
  exact hT h2.2.1)
theorem OkM.push {base z:Nat} {w w':World} {O:Okr} {vd vd' vb:Value} {ds:List (Dq×Value)} {d:Dq} (h:OkM base w O vd vb ds) (q1:w'.ownsRow base 44 6 vd' (ds.length+1) (dqsCs ds++dqCs d (.slice none 0 0))) (q2:w.grownBy w' vd.ownBlock) (hd:d.ops=[]):OkM base w' ⟨O.deals++[d],O.bonds,z⟩ vd' vb (ds++[(d,.slice none 0 0)]):=by
 have ht:∀ g,vd.ownBlock=some g→∃ cs,w.heap[g]? =some (Obj.cells cs 44):=fun g hg=>own_typ h.dr hg
 have hcs:CS w w':=CS.grown q2 fun g hg=>let ⟨cs,h1⟩:=ht g hg;⟨cs,_,h1,by decide⟩
 have hps:PS w w':=PS.grown q2 fun g hg=>let ⟨cs,h1⟩:=ht g hg;⟨cs,_,h1,by decide⟩
 refine⟨by rw[List.map_append,h.dl];rfl,?_,?_,own_other h.bd q2 ht (by decide)⟩
 · have e:dqsCs (ds++[(d,Value.slice none 0 0)])=dqsCs ds++dqCs d (.slice none 0 0):=by simp[dqsCs]
   rw[e,List.length_append];exact q1
 · intro k p hk
   by_cases hl:k<ds.length
   · rw[List.getElem?_append_left hl] at hk
     obtain⟨cs,h1,h2⟩:=h.ops k p hk;exact⟨cs,own_cs h1 hcs,h2.ps hps⟩
   · rw[List.getElem?_append_right (by omega)] at hk
     obtain⟨_,hp⟩:=List.getElem?_eq_some_iff.mp hk;simp only[List.getElem_singleton] at hp;subst hp;show ∃ cs,w'.ownsRow base 51 9 (.slice none 0 0) d.ops.length cs∧Cqs 0 w' d.ops cs;rw[hd];exact⟨[],World.ownsRow_nil _ _ _ _,rfl⟩
theorem own_free {w:World} {base size n g c i:Nat} {T:TypeId} {xs:List Value} (h:w.ownsRow base T size (.slice (some ⟨g,0,none⟩) n c) n xs):w.frozen? ⟨g,i,none⟩=false:=by
 obtain⟨cur,hc⟩:=own_typ h (g:=g) rfl;simp[World.frozen?,hc]
theorem own_set {w:World} {base size n g c:Nat} {T:TypeId} {xs:List Value} (h:w.ownsRow base T size (.slice (some ⟨g,0,none⟩) n c) n xs) (i:Nat) (u:Value):(w.setCell ⟨g,i,none⟩ u).ownsRow base T size (.slice (some ⟨g,0,none⟩) n c) n (xs.set i u):=by
 rcases h.2 with ⟨e0,_⟩|⟨g',cap,cur,hv,hb,hg,hnc,hcm,hsz,htk⟩
 · simp at e0
 · simp only[Value.slice.injEq,Option.some.injEq,Addr.mk.injEq,true_and,and_true] at hv
   obtain⟨rfl,rfl⟩:=hv;refine⟨by rw[List.length_set];exact h.1,.inr ⟨_,_,_,rfl,hb,heap_setCell_same hg i u,hnc,hcm,by simpa using hsz,?_⟩⟩;rw[←htk];simp[List.take_set]
theorem OkM.put {base z j k dn dg dc:Nat} {w:World} {O:Okr} {vb dv u:Value} {ds:List (Dq×Value)} {d d':Dq} (h:OkM base w O (.slice (some ⟨dg,0,none⟩) dn dc) vb ds) (hdn:dn=ds.length) (hk:ds[k]? =some (d,dv)) (hj:j<6) (hs:(dqCs d dv).set j u=dqCs d' dv) (ho:d'.ops=d.ops):OkM base (w.setCell ⟨dg,k*6+j,none⟩ u) ⟨O.deals.set k d',O.bonds,z⟩ (.slice (some ⟨dg,0,none⟩) dn dc) vb (ds.set k (d',dv)):=by
 obtain⟨cur,hcur⟩:=own_typ h.dr (g:=dg) rfl;have hbut:=But.setCell w ⟨dg,k*6+j,none⟩ u;have hcs:CS w (w.setCell ⟨dg,k*6+j,none⟩ u):=CS.but hbut hcur (by decide);have hps:PS w (w.setCell ⟨dg,k*6+j,none⟩ u):=PS.but hbut hcur (by decide);have hdr:=h.dr;rw[←hdn] at hdr;refine⟨by rw[List.map_set,h.dl],?_,?_,?_⟩
 · rw[List.length_set,←hdn,←dqsCs_set ds k j u (d,dv) (d',dv) hj hk hs]
   exact own_set hdr _ _
 · intro i p hi
   rw[List.getElem?_set] at hi
   split at hi
   · rename_i e
     subst e
     split at hi
     · obtain rfl:=Option.some.inj hi
       obtain⟨cs,h1,h2⟩:=h.ops k _ hk;exact⟨cs,by rw[show (d',dv).1.ops=d.ops from ho];exact own_cs h1 hcs,by rw[show (d',dv).1.ops=d.ops from ho];exact h2.ps hps⟩
     · cases hi
   · obtain⟨cs,h1,h2⟩:=h.ops i p hi
     exact⟨cs,own_cs h1 hcs,h2.ps hps⟩
 · exact own_same h.bd fun g hg => hbut.block g (by
     rintro rfl
     obtain⟨c2,h2⟩:=own_typ h.bd hg
     rw[show _=_ from hcur] at h2
     simp at h2)
theorem Cqs.one {base:Nat} {w:World}:∀ {l:List (En.Op×Res)} {cs:List Value},Cqs base w l cs→∀ u∈cs,u.oneCell'=true
 |[],_,h,u,hu=>by rw[show _=_ from h] at hu;cases hu
 |p::l,_,⟨vp,cs',h1,h2,h3⟩,u,hu=>by
  rw[h1] at hu
  rcases List.mem_append.1 hu with hu|hu
  · obtain⟨a,c,rfl,_⟩:=Ow.own_form h2
    simp[cqCs] at hu
    rcases hu with rfl|rfl|rfl|rfl|rfl|rfl|rfl|rfl|rfl<;>rfl
  · exact Cqs.one h3 u hu
theorem blk_row {w:World} {g:Nat} {cs:List Value} {T:TypeId} (h:w.heap[g]? =some (.cells cs.toArray T)) (j:Nat) (u:Value) (hu:cs[j]? =some u):w.cell? ((⟨g,0,none⟩:Addr).add j)=some u:=by
 have e1:(⟨g,0,none⟩:Addr).add j=⟨g,0+j,none⟩:=by
  unfold Addr.add;split
  · rename_i h;subst h;rfl
  · rfl
 rw[e1,Nat.zero_add,cell_of_row _ _ _ _ _ _ h]
 simpa using hu
theorem OkM.putOps {base z k dn dg dc:Nat} {w w9:World} {O:Okr} {vb dv v' vp:Value} {ds:List (Dq×Value)} {d:Dq} {oo:En.Op} {r:Res} {cs:List Value} (h:OkM base w O (.slice (some ⟨dg,0,none⟩) dn dc) vb ds) (hbs:base≤w.heap.size) (hdn:dn=ds.length) (hk:ds[k]? =some (d,dv)) (hb:Below w.heap.size w w9) (hcs:Cqs 0 w d.ops cs) (hp:w.ownsRow 0 134 2 vp r.pairs.length (pairCs r.pairs)) (hv:w9.ownsRow w.heap.size 51 9 v' (d.ops.length+1) (cs++cqCs oo r vp)):OkM base (w9.setCell ⟨dg,k*6+5,none⟩ v') ⟨O.deals.set k {d with ops:=d.ops++[(oo,r)]},O.bonds,z⟩ (.slice (some ⟨dg,0,none⟩) dn dc) vb (ds.set k ({d with ops:=d.ops++[(oo,r)]},v')):=by
 have h9:=h.below hb;obtain⟨cur,hcur⟩:=own_typ h9.dr (g:=dg) rfl;have hbut:=But.setCell w9 ⟨dg,k*6+5,none⟩ v';have hcs9:CS w9 (w9.setCell ⟨dg,k*6+5,none⟩ v'):=CS.but hbut hcur (by decide);have hps:PS w9 (w9.setCell ⟨dg,k*6+5,none⟩ v'):=PS.but hbut hcur (by decide);have hps0:PS w (w9.setCell ⟨dg,k*6+5,none⟩ v'):=(PS.below hb).trans hps;have hdr:=h9.dr;rw[←hdn] at hdr;refine⟨by rw[List.map_set,h.dl],?_,?_,?_⟩
 · rw[List.length_set,←hdn,←dqsCs_set ds k 5 v' (d,dv) ({d with ops:=d.ops++[(oo,r)]},v') (by omega) hk rfl]
   exact own_set hdr _ _
 · intro i p hi
   rw[List.getElem?_set] at hi
   split at hi
   · rename_i e
     subst e
     split at hi
     · obtain rfl:=Option.some.inj hi
       refine⟨_,?_,(hcs.ps hps0).snoc (own_ps hp hps0)⟩;rw[List.length_append];exact own_low (own_cs hv hcs9) hbs
     · cases hi
   · obtain⟨cs',h1,h2⟩:=h9.ops i p hi
     exact⟨cs',own_cs h1 hcs9,h2.ps hps⟩
 · exact own_same h9.bd fun g hg => hbut.block g (by
     rintro rfl
     obtain⟨c2,h2⟩:=own_typ h9.bd hg
     rw[show _=_ from hcur] at h2
     simp at h2)
theorem OkM.bond {base z a b:Nat} {w w':World} {O:Okr} {vd vb vb':Value} {ds:List (Dq×Value)} (h:OkM base w O vd vb ds) (q1:w'.ownsRow base 146 2 vb' (O.bonds.length+1) (pairCs O.bonds++[zi (a:Int),zi (b:Int)])) (q2:w.grownBy w' vb.ownBlock):OkM base w' ⟨O.deals,O.bonds++[(a,b)],z⟩ vd vb' ds:=by
 have ht:∀ g,vb.ownBlock=some g→∃ cs,w.heap[g]? =some (Obj.cells cs 146):=fun g hg=>own_typ h.bd hg
 have hcs:CS w w':=CS.grown q2 fun g hg=>let ⟨cs,h1⟩:=ht g hg;⟨cs,_,h1,by decide⟩
 have hps:PS w w':=PS.grown q2 fun g hg=>let ⟨cs,h1⟩:=ht g hg;⟨cs,_,h1,by decide⟩
 refine⟨h.dl,own_other h.dr q2 ht (by decide),fun k p hk=>let ⟨cs,h1,h2⟩:=h.ops k p hk;⟨cs,own_cs h1 hcs,h2.ps hps⟩,?_⟩;rw[List.length_append,pairCs_snoc];exact q1
theorem cont_intro {X:Prop} {G F:Nat→Value→Nat→Option Addr→Nat→World→Prop} (h1:(∀ gE v8 gC av cv w9,F gE v8 gC av cv w9→G gE v8 gC av cv w9)→X) (h2:∀ gE v8 gC av cv w9,F gE v8 gC av cv w9→G gE v8 gC av cv w9):X:=h1 h2
theorem emptyRow {w:World} {T:TypeId} {base size:Nat} (hb:base≤w.heap.size):(w.alloc (.cells #[] T)).ownsRow base T size (.slice (some ⟨w.heap.size,0,none⟩) 0 0) 0 []:=
 ⟨by simp,.inr ⟨w.heap.size,0,#[],rfl,hb,heap_alloc_new _ _,Nat.le_refl _,Nat.zero_le _,by simp,by simp⟩⟩
theorem own_below' {w:World} {base size n:Nat} {T:TypeId} {v:Value} {xs:List Value} (h:w.ownsRow base T size v n xs) (o:Obj):(w.alloc o).ownsRow base T size v n xs:=Ow.own_below h ((Below.refl _ _).alloc (Nat.le_refl _) _)
theorem setKeep {w:World} {a p:Addr} {u v:Value} (hn:p.block≠a.block) (h:w.cell? a=some v):(w.setCell p u).cell? a=some v:=by
 rw[World.cell?_setCell_far _ _ _ _ hn];exact h
theorem infoCl:(Tryz.prog.info? 51).map (fun i=>(i.zero,i.size,i.bytes))=some (some (.agg #[zi 0,zi 0,zi 0,zi 0,zi 0,zi 0,.slice none 0 0,zi 0,zi 0]),9,88):=by kernel_rfl
theorem infoBd:(Tryz.prog.info? 146).map (fun i=>(i.zero,i.size,i.bytes))=some (some (.agg #[zi 0,zi 0]),2,16):=by kernel_rfl
theorem infoDl:(Tryz.prog.info? 44).map (fun i=>(i.zero,i.size,i.bytes))=some (some (.agg #[zi 0,zi 0,zi 0,zu 0,zu 0,.slice none 0 0]),6,64):=by kernel_rfl
structure OkL (w:World) (l:List Ev) (O1:Okr) (k:Nat) (O:Okr) (vd vb:Value) (ds:List (Dq×Value)) (wr:World):Prop where
 low:k≤l.length
 run:okTale (l.drop k) O=some O1
 mem:OkM w.heap.size wr O vd vb ds
 few:O.deals.length≤k∧O.bonds.length≤k
 bel:Below w.heap.size w wr
set_option maxHeartbeats 40000000 in
theorem ok_any (w:World) (base:Nat) (l:List Ev) (v:Value) (cs:List Value) (O1:Okr) (hv:w.ownsRow base 83 12 v l.length cs) (he:EvO base w l cs) (hn:l.length≤20000) (hp:∀ e∈l,e.res.pairs.length≤1000000∧e.n<9223372036854775808∧e.t≤1000000∧e.kind<100) (hO:okTale l ⟨[],[],0⟩=some O1):
 Calls Tryz.prog 27 #[v] w fun e w'=>∃ vd vb ds,e=.returned (.tuple #[.bool true,zi (-1),vd])∧OkM w.heap.size w' O1 vd vb ds∧Below w.heap.size w w':=by
 obtain⟨n,hnn⟩:∃ n,n=l.length:=⟨_,rfl⟩
 obtain⟨va,vc,rfl,_⟩:=Ow.own_form hv;rw[←hnn] at hv hn ⊢;have b0:((20000:Int)<(n:Int))=False:=by simp;omega
 have b1:decide ((20000:Int)<(n:Int))=false:=by simp;omega
 have H0:=zH (zA hv (zA he (zA hn (zA hp (zA hO hnn)))));clear hv he hn hp hO hnn;go_enter Tryz.func27,Tryz.ntmps27;go_wp2
 go_loopw [5,6,7,8] (fun vd vb la i wr=>∃ (k:Nat) (O:Okr) (ds:List (Dq×Value)),i=zi (k:Int)∧la=zu (O.last:Int)∧OkL w l O1 k O vd vb ds wr) (fun _ _ _ i _=>n - (intOf i).toNat)
 case atStart=>exact⟨0,_,[],rfl,rfl,⟨Nat.zero_le _,H0.out.2.2.2.2.1,OkM.nil _ _,⟨Nat.le_refl _,Nat.le_refl _⟩,Below.refl _ _⟩⟩
 case round=>
  obtain⟨k,O,ds,rfl,rfl,hL⟩:=hrel;obtain⟨hv,he,hn,hp,hO,hnn⟩:=H0.out
  by_cases hlt:k<n
  · obtain⟨ev,hek⟩:∃ ev,l[k]? =some ev:=⟨_,List.getElem?_eq_getElem (by omega)⟩
    obtain⟨O',hev,hrun⟩:=okTale_step hek hL.run;have htr:wr.ownsRow base 83 12 (.slice va n vc) n cs:=own_same hv fun g hg=>hL.bel.block g (hv.lt g hg).2
    obtain⟨gt,tc',hv',_⟩:=own_head htr (by omega);simp only[Value.slice.injEq] at hv';obtain⟨rfl,_,rfl⟩:=hv';obtain⟨vp,hpr,hcs⟩:=EvO.at he hek;obtain⟨pa,pc,rfl,hpc⟩:=Ow.own_form hpr;obtain⟨pn,hpn⟩:∃ pn,pn=ev.res.pairs.length:=⟨_,rfl⟩
    rw[←hpn] at hpr hcs;have hX:∀ j v,j<12→(evCs ev (.slice pa pn pc))[j]? =some v→wr.cell? ⟨gt,k*12+j,none⟩=some v:=fun j v hj hj2=>by
     rw[htr.cellAt (k*12+j) (by omega),hcs j hj];exact hj2
    have X0:=hX 0 _ (by omega) rfl;rw[Nat.add_zero] at X0;have X1:=hX 1 _ (by omega) rfl;have X2:=hX 2 _ (by omega) rfl;have X3:=hX 3 _ (by omega) rfl;have X4:=hX 4 _ (by omega) rfl;have X5:=hX 5 _ (by omega) rfl;have X6:=hX 6 _ (by omega) rfl;have X7:=hX 7 _ (by omega) rfl;have X8:=hX 8 _ (by omega) rfl;have X9:=hX 9 _ (by omega) rfl;have X10:=hX 10 _ (by omega) rfl;have X11:=hX 11 _ (by omega) rfl;have c0:((k:Int)<(n:Int))=True:=by simp;omega
    have c1:(k:Int)<(n:Int):=by omega
    have c2:(0:Int)≤(k:Int):=by omega
    have n3:IntKind.i64.wrap ((k:Int)+1)=(k:Int)+1:=by rw[IntKind.wrap_i64];omega
    obtain⟨da,dc,rfl,hdc1,hdc2,_⟩:=Ow.own_form hL.mem.dr;obtain⟨dn,hdn⟩:∃ dn,dn=ds.length:=⟨_,rfl⟩
    have hdl:=hL.mem.len;rw[←hdn] at hdl ⊢;have hpe:=hp ev (List.mem_of_getElem? hek);have HX:=zH (zA hL (zA hek (zA hlt (zA hn (zA hnn (zA hev (zA hrun (zA hpr (zA hpn (zA hpe (zA hdn hdl)))))))))));clear hL hek hlt hn hnn hev hrun hpr hpn hpe hdn hdl hX hcs htr hv he hp hO hdc1 hdc2 hpc H0 b0 b1;go_upto_region 10 with fail
    have hb1:Below wr.heap.size wr (wr.alloc (.cells #[zi (ev.kind:Int),zi (ev.t:Int),zu (ev.n:Int),zi (ev.op.kind:Int),zi (ev.op.key:Int),zi (ev.op.hi:Int),zi (ev.op.value:Int),zi (ev.res.e:Int),zi (ev.res.value:Int),.slice pa pn pc,zi (ev.res.over:Int),zi (ev.res.reason:Int)] 83)):=(Below.refl _ _).alloc (Nat.le_refl _) _;have h1:=heap_alloc_new wr (.cells #[zi (ev.kind:Int),zi (ev.t:Int),zu (ev.n:Int),zi (ev.op.kind:Int),zi (ev.op.key:Int),zi (ev.op.hi:Int),zi (ev.op.value:Int),zi (ev.res.e:Int),zi (ev.res.value:Int),.slice pa pn pc,zi (ev.res.over:Int),zi (ev.res.reason:Int)] 83);have hsz:(wr.alloc (.cells #[zi (ev.kind:Int),zi (ev.t:Int),zu (ev.n:Int),zi (ev.op.kind:Int),zi (ev.op.key:Int),zi (ev.op.hi:Int),zi (ev.op.value:Int),zi (ev.res.e:Int),zi (ev.res.value:Int),.slice pa pn pc,zi (ev.res.over:Int),zi (ev.res.reason:Int)] 83)).heap.size=wr.heap.size+1:=by simp
    have H1:=zH (zA hb1 (zA h1 hsz));clear hb1 h1 hsz X0 X1 X2 X3 X4 X5 X6 X7 X8 X9 X10 X11;generalize wr.alloc _=w1 at*;have Z0:=(show w1.cell? ⟨wr.heap.size,0,none⟩=some _ by rw[cell_of_row _ _ _ _ _ _ H1.out.2.1];rfl)
    have Z1:=(show w1.cell? ⟨wr.heap.size,1,none⟩=some _ by rw[cell_of_row _ _ _ _ _ _ H1.out.2.1];rfl)
    have Z2:=(show w1.cell? ⟨wr.heap.size,2,none⟩=some _ by rw[cell_of_row _ _ _ _ _ _ H1.out.2.1];rfl)
    have Z3:=(show w1.cell? ⟨wr.heap.size,3,none⟩=some _ by rw[cell_of_row _ _ _ _ _ _ H1.out.2.1];rfl)
    have Z4:=(show w1.cell? ⟨wr.heap.size,4,none⟩=some _ by rw[cell_of_row _ _ _ _ _ _ H1.out.2.1];rfl)
    have Z5:=(show w1.cell? ⟨wr.heap.size,5,none⟩=some _ by rw[cell_of_row _ _ _ _ _ _ H1.out.2.1];rfl)
    have Z6:=(show w1.cell? ⟨wr.heap.size,6,none⟩=some _ by rw[cell_of_row _ _ _ _ _ _ H1.out.2.1];rfl)
    have Z7:=(show w1.cell? ⟨wr.heap.size,7,none⟩=some _ by rw[cell_of_row _ _ _ _ _ _ H1.out.2.1];rfl)
    have Z8:=(show w1.cell? ⟨wr.heap.size,8,none⟩=some _ by rw[cell_of_row _ _ _ _ _ _ H1.out.2.1];rfl)
    have Z9:=(show w1.cell? ⟨wr.heap.size,9,none⟩=some _ by rw[cell_of_row _ _ _ _ _ _ H1.out.2.1];rfl)
    have Z10:=(show w1.cell? ⟨wr.heap.size,10,none⟩=some _ by rw[cell_of_row _ _ _ _ _ _ H1.out.2.1];rfl)
    have Z11:=(show w1.cell? ⟨wr.heap.size,11,none⟩=some _ by rw[cell_of_row _ _ _ _ _ _ H1.out.2.1];rfl)
    by_cases hk1:ev.kind=1
    · obtain⟨hL,hek,hlt,hn,hnn,hev,hrun,hpr,hpn,hpe,hdn,hdl⟩:=HX.out
      obtain⟨ht,hla,hO'⟩:=okEv_one hev hk1;have HAT:=zH (at_no (.bool true) da dn dc (ev.t:Int) (.inr (by omega)));rw[hk1] at Z0;replace Z0:w1.cell? ⟨wr.heap.size,0,none⟩=some (Value.int .i64 1):=Z0;have hfew:=hL.few;have m1:IntKind.i64.wrap ((dn:Int)+1)=(ev.t:Int):=by rw[IntKind.wrap_i64];omega
      have m2:((O.last:Int)<(ev.n:Int))=True:=by simp;omega
      have m3:decide ((O.last:Int)<(ev.n:Int))=true:=by simp;omega
      have HI:=zH (zA ht (zA hla hO'));clear hL hek hlt hn hnn hev hrun hpr hpn hpe hdn hdl ht hla hO' hfew;go_upto_region 15 with (go_at_call 48;refine (HAT.out _).mono ?_;rintro e w2 ⟨rfl,rfl⟩)
      go_upto_region 16 with fail
      obtain⟨ii,hii,hz0,hz1,hz2⟩:=info_parts infoDl;have hb2:Below wr.heap.size wr (w1.alloc (.cells #[zi (ev.t:Int),zi (ev.op.value:Int),zi 1,zu (ev.n:Int),zu 0,.slice none 0 0] 44)):=H1.out.1.alloc H1.out.1.size _;have hM2:=zH (HX.out.1.mem.below hb2);have hdl9:dn<20000:=by have:=HX.out.1.few;have:=HX.out.2.2.2.2.2.2.2.2.2.2.2;have:=HX.out.2.2.1;have:=HX.out.2.2.2.1;omega
      have hown2:Hid ((w1.alloc (.cells #[zi (ev.t:Int),zi (ev.op.value:Int),zi 1,zu (ev.n:Int),zu 0,.slice none 0 0] 44)).ownsRow w.heap.size 44 6 (.slice da dn dc) dn (dqsCs ds)):=zH (by have h:=hM2.out.dr;rw[←HX.out.2.2.2.2.2.2.2.2.2.2.1] at h;exact h);have hsz2:=zH (Nat.le_trans HX.out.1.bel.size hb2.size);clear hb2;go_upto_region 17 with (refine Ow.wpList_append_to _ rfl (.tmp 58) (.tmp 67) 33 rfl w.heap.size 44 ii _ 6 64 Tryz.underlying33 hii hz0 hz1 hz2 rfl (by decide) (.slice da dn dc) dn (dqsCs ds) rfl hown2.out ⟨w1.heap.size,0,none⟩ 1 1 (by omega) [zi (ev.t:Int),zi (ev.op.value:Int),zi 1,zu (ev.n:Int),zu 0,.slice none 0 0] rfl rfl (fun j u hu=>Ow.new_row w1 [zi (ev.t:Int),zi (ev.op.value:Int),zi 1,zu (ev.n:Int),zu 0,.slice none 0 0] _ w1.heap.size (by simp) j u hu) (by intro u hu;simp at hu;rcases hu with rfl|rfl|rfl|rfl|rfl|rfl<;>rfl) (by unfold maxLen;omega) (by omega) hsz2.out ?_;intro v' w4 q1 q2 q3;obtain⟨av,cv,rfl,_⟩:=Ow.own_form q1;have HY:=zH (zA q1 q2);clear q1 q2 q3)
      have h4:w4.heap[wr.heap.size]? =some (.cells #[zi (ev.kind:Int),zi (ev.t:Int),zu (ev.n:Int),zi (ev.op.kind:Int),zi (ev.op.key:Int),zi (ev.op.hi:Int),zi (ev.op.value:Int),zi (ev.res.e:Int),zi (ev.res.value:Int),.slice pa pn pc,zi (ev.res.over:Int),zi (ev.res.reason:Int)] 83):=by
       have hlt1:wr.heap.size<w1.heap.size:=by rw[H1.out.2.2];omega
       have h5:=(heap_alloc_old w1 (.cells #[zi (ev.t:Int),zi (ev.op.value:Int),zi 1,zu (ev.n:Int),zu 0,.slice none 0 0] 44) hlt1).trans H1.out.2.1;refine (HY.out.2.block wr.heap.size (by simp;omega) ?_).trans h5;intro e;obtain⟨cs',h6⟩:=own_typ hown2.out e.symm;rw[h5] at h6;simp at h6
      replace Z2:=(show w4.cell? ⟨wr.heap.size,2,none⟩=some _ by rw[cell_of_row _ _ _ _ _ _ h4];rfl)
      clear h4 Z0 Z1 Z3 Z4 Z5 Z6 Z7 Z8 Z9 Z10 Z11;go_wp2
      go_roundw
      case rel=>
       obtain⟨hL,hek,hlt,hn,hnn,hev,hrun,hpr,hpn,hpe,hdn,hdl⟩:=HX.out;obtain⟨ht,hla,hO'⟩:=HI.out;obtain⟨q1,q2⟩:=HY.out;subst hO';refine⟨k+1,_,ds++[(⟨ev.t,ev.op.value,1,ev.n,0,[]⟩,.slice none 0 0)],rfl,rfl,⟨by omega,hrun,?_,?_,?_⟩⟩
       · have h:=hM2.out.push (z:=ev.n) (d:=⟨ev.t,ev.op.value,1,ev.n,0,[]⟩) (vd':=.slice av (dn+1) cv) (by rw[←hdn];exact q1) (by rw[←hdn];exact q2) rfl
         exact h
       · have:=hL.few
         simp;omega
       · have z:=hL.bel.trans ((H1.out.1.alloc (o:=.cells #[zi (ev.t:Int),zi (ev.op.value:Int),zi 1,zu (ev.n:Int),zu 0,.slice none 0 0] 44) H1.out.1.size).mono hL.bel.size)
         exact⟨q2.os.trans z.os,q2.tape.trans z.tape,q2.output.trans z.output,Nat.le_trans z.size q2.size,fun b hb=>(q2.block b (Nat.lt_of_lt_of_le hb z.size) (fun e=>by have:=(hown2.out.lt b e.symm).1;omega)).trans (z.block b hb)⟩
      case measure=>have:=HX.out.2.2.1;simp[intOf];omega
    · obtain⟨hL,hek,hlt,hn,hnn,hev,hrun,hpr,hpn,hpe,hdn,hdl⟩:=HX.out
      obtain⟨kk,d,ht,hd,hs,hodd⟩:=okEv_odd hev hk1;have hMx:=hL.mem.below H1.out.1;obtain⟨dv,hdk⟩:=hMx.get hd;have hkl:kk<dn:=by have:=(List.getElem?_eq_some_iff.mp hd).1;omega
      have hr:=hMx.dr;rw[←hdn] at hr hMx;obtain⟨dg,dcc,hv',_⟩:=own_head hr (by omega);simp only[Value.slice.injEq] at hv';obtain⟨rfl,_,rfl⟩:=hv';have hD:∀ j v,j<6→(dqCs d dv)[j]? =some v→w1.cell? ⟨dg,kk*6+j,none⟩=some v:=fun j v hj hj2=>by
       rw[hr.cellAt (kk*6+j) (by omega),dqsCs_get _ _ _ hj,hdk];exact hj2
      have D2:w1.cell? ⟨dg,kk*6+2,none⟩=some (zi 1):=by have h:=hD 2 _ (by omega) rfl;rw[hs] at h;exact h
      have D4:w1.cell? ⟨dg,kk*6+4,none⟩=some (zu (d.end_:Int)):=hD 4 _ (by omega) rfl;have F2:w1.frozen? ⟨dg,kk*6+2,none⟩=false:=own_free hr;have F4:w1.frozen? ⟨dg,kk*6+4,none⟩=false:=own_free hr;have D5:w1.cell? ⟨dg,kk*6+5,none⟩=some dv:=hD 5 _ (by omega) rfl;have HAT:Hid (∀ w,Calls Tryz.prog 48 #[.slice (some ⟨dg,0,none⟩) dn dc,zi (ev.t:Int)] w fun e w'=>e=.returned (zi (kk:Int))∧w=w'):=by
       have h:=at_yes (some ⟨dg,0,none⟩) dn dc kk hkl (by have:=hL.few;omega);rw[←ht] at h;exact zH h
      have c3:(0:Int)≤(kk:Int):=by omega
      have c4:((0:Int)≤(kk:Int))=True:=by simp
      have c5:(kk:Int)<(dn:Int):=by omega
      have HM:=zH (zA hMx (zA hr (zA hdk (zA ht (zA hd hkl)))));clear hL hek hlt hn hnn hev hrun hpr hpn hpe hdn hdl hMx hr hdk ht hd hs hkl hD
      rcases hodd with ⟨h2,h3⟩|⟨h2,h3⟩|⟨h2,h3⟩|⟨h2,h3⟩|⟨h2,h3⟩
      · skip
        replace Z0:w1.cell? ⟨wr.heap.size,0,none⟩=some (Value.int .i64 2):=by rw[h2] at Z0;exact Z0
        obtain⟨h4,h5,h6⟩:=h3;replace D4:w1.cell? ⟨dg,kk*6+4,none⟩=some (zu 0):=by rw[h4] at D4;exact D4
        obtain⟨cs5,r5,q5⟩:=HM.out.1.ops kk (d,dv) HM.out.2.2.1;obtain⟨on,hon⟩:∃ on,on=d.ops.length:=⟨_,rfl⟩
        replace r5:w1.ownsRow w.heap.size 51 9 dv on cs5:=by rw[hon];exact r5
        obtain⟨oa,oc,rfl,_⟩:=Ow.own_form r5;obtain⟨ic,hic,hc0,hc1,hc2⟩:=info_parts infoCl;have hge:wr.heap.size<w1.heap.size:=by rw[H1.out.2.2];omega
        have HDG:=zH (show dg≠wr.heap.size by have:=(HX.out.1.mem.dr.lt dg rfl).2;omega);have HS:Hid (∀ w',Below w1.heap.size w1 w'→w'.cell? ⟨wr.heap.size,3,none⟩=some (zi (ev.op.kind:Int))∧w'.cell? ⟨wr.heap.size,4,none⟩=some (zi (ev.op.key:Int))∧w'.cell? ⟨wr.heap.size,5,none⟩=some (zi (ev.op.hi:Int))∧w'.cell? ⟨wr.heap.size,6,none⟩=some (zi (ev.op.value:Int))∧w'.cell? ⟨wr.heap.size,7,none⟩=some (zi (ev.res.e:Int))∧w'.cell? ⟨wr.heap.size,8,none⟩=some (zi (ev.res.value:Int))∧w'.cell? ⟨wr.heap.size,9,none⟩=some (.slice pa pn pc)∧w'.cell? ⟨wr.heap.size,10,none⟩=some (zi (ev.res.over:Int))∧w'.cell? ⟨wr.heap.size,11,none⟩=some (zi (ev.res.reason:Int))):=fun w' hb=>by
         have h8:=(hb.block wr.heap.size hge).trans H1.out.2.1;refine⟨?_,?_,?_,?_,?_,?_,?_,?_,?_⟩<;>(rw[cell_of_row _ _ _ _ _ _ h8];rfl)
        have HD5:Hid (∀ w',Below w1.heap.size w1 w'→w'.cell? ⟨dg,kk*6+5,none⟩=some (.slice oa on oc)∧w'.frozen? ⟨dg,kk*6+5,none⟩=false):=fun w' hb=>⟨(hb.cell (p:=⟨dg,kk*6+5,none⟩) (HM.out.2.1.lt dg rfl).2).trans D5,own_free (Ow.own_below HM.out.2.1 hb)⟩
        have HR5:Hid (∀ w',Below w1.heap.size w1 w'→Ow.Row w' w.heap.size 9 (.slice oa on oc) cs5):=fun w' hb=>own_row (Ow.own_below r5 hb)
        have HL5:=zH (zA r5.1 (zA q5.one (show on<1000 by omega)));have HQ5:=zH q5;have HI:=zH (zA h5 h6);have HON:=zH hon;clear h2 h4 h5 h6 r5 q5 hge hon D5;go_upto_region 21 with (go_at_call 48;refine (HAT.out _).mono ?_;rintro e w2 ⟨rfl,rfl⟩)
        apply cont_intro (F:=fun (gE:Nat) (v8:Value) (gC:Nat) (av:Option Addr) (cv:Nat) (w9:World)=>Below w1.heap.size w1 w9∧w9.ownsRow w1.heap.size 51 9 (.slice av (on+1) cv) (on+1) (cs5++[zi (ev.op.kind:Int),zi (ev.op.key:Int),zi (ev.op.hi:Int),zi (ev.op.value:Int),zi (ev.res.e:Int),zi (ev.res.value:Int),.slice pa pn pc,zi (ev.res.over:Int),zi (ev.res.reason:Int)]))
        case h1=>
         intro CONT;refine wp_region_held_drew (S:=fun w'=>w'.cell? ⟨wr.heap.size,3,none⟩=some (zi (ev.op.kind:Int))∧w'.cell? ⟨wr.heap.size,4,none⟩=some (zi (ev.op.key:Int))∧w'.cell? ⟨wr.heap.size,5,none⟩=some (zi (ev.op.hi:Int))∧w'.cell? ⟨wr.heap.size,6,none⟩=some (zi (ev.op.value:Int))∧w'.cell? ⟨wr.heap.size,7,none⟩=some (zi (ev.res.e:Int))∧w'.cell? ⟨wr.heap.size,8,none⟩=some (zi (ev.res.value:Int))∧w'.cell? ⟨wr.heap.size,9,none⟩=some (.slice pa pn pc)∧w'.cell? ⟨wr.heap.size,10,none⟩=some (zi (ev.res.over:Int))∧w'.cell? ⟨wr.heap.size,11,none⟩=some (zi (ev.res.reason:Int))) (by kernel_rfl) ?_ (fun hHeld=>?_)
         · (try dsimp only);exact HS.out _ (Below.refl _ _).drew
         have J:=zH ((Below.refl w1.heap.size w1).drew);generalize w1.drew=vd at*;refine zqt (i:=0) rfl hHeld ?_
         (try simp only[zqa,zqb,zqc,Act.put,zqd,zqe,zqf])
         refine zqt (i:=1) rfl hHeld ?_
         (try simp only[zqa,zqb,zqc,Act.put,zqd,zqe,zqf])
         refine zqt (i:=3) rfl hHeld ?_
         (try simp only[zqa,zqb,zqc,Act.put,zqd,zqe,zqf])
         refine zqt (i:=4) rfl hHeld ?_
         (try simp only[zqa,zqb,zqc,Act.put,zqd,zqe,zqf])
         refine zqt (i:=5) rfl hHeld ?_
         (try simp only[zqa,zqb,zqc,Act.put,zqd,zqe,zqf])
         refine zqt (i:=6) rfl hHeld ?_
         (try simp only[zqa,zqb,zqc,Act.put,zqd,zqe,zqf])
         refine zqt (i:=9) rfl hHeld ?_
         (try simp only[zqa,zqb,zqc,Act.put,zqd,zqe,zqf])
         refine zqt (i:=10) rfl hHeld ?_
         (try simp only[zqa,zqb,zqc,Act.put,zqd,zqe,zqf])
         refine zqt (i:=11) rfl hHeld ?_
         (try simp only[zqa,zqb,zqc,Act.put,zqd,zqe,zqf])
         refine zqt (i:=12) rfl hHeld ?_
         (try simp only[zqa,zqb,zqc,Act.put,zqd,zqe,zqf])
         refine zqt (i:=13) rfl hHeld ?_
         (try simp only[zqa,zqb,zqc,Act.put,zqd,zqe,zqf])
         refine wpAnyH_ready (rs:=[2,7,14]) (by kernel_rfl) (by simp) ?_;refine AllReadyH.cons (o:=_) rfl (fun K hK=>?_) (AllReadyH.cons (o:=_) rfl (fun K hK=>?_) (AllReadyH.cons (o:=_) rfl (fun K hK=>?_) AllReadyH.nil))
         focus (
          go_simp
          refine hK.out _ _ ?_ (fun hHeld=>?_)
          · (try dsimp only);exact HS.out _ (J.out.alloc J.out.size _)
          clear hK K
          (try simp only[zqa,zqb,zqc,Act.put,zqd,zqe,zqf])
          have J2:=zH (J.out.alloc (o:=.cells #[] 51) J.out.size)
          have HE:=zH (emptyRow (T:=51) (size:=9) J.out.size)
          clear J
          generalize vd.alloc _=v2 at*
          generalize vd.heap.size=gE at*
          have J:=J2
          clear J2
          refine wpAnyH_ready (rs:=[7,14]) (by kernel_rfl) (by simp) ?_
          refine AllReadyH.cons (o:=_) rfl (fun K hK=>?_) (AllReadyH.cons (o:=_) rfl (fun K hK=>?_) AllReadyH.nil)
          focus (
           have y5:=(HD5.out _ J.out).1
           go_simp
           refine hK.out _ _ ?_ (fun hHeld=>?_)
           · (try dsimp only);exact hHeld
           clear hK K
           (try simp only[zqa,zqb,zqc,Act.put,zqd,zqe,zqf])
           clear y5
           refine wpAnyH_ready (rs:=[8,14]) (by kernel_rfl) (by simp) ?_
           refine AllReadyH.cons (o:=_) rfl (fun K hK=>?_) (AllReadyH.cons (o:=_) rfl (fun K hK=>?_) AllReadyH.nil)
           focus (
            rw[if_pos (by rfl)]
            refine Ow.wp_append_row _ (.tmp 87) (.tmp 92) 42 rfl w1.heap.size 51 ic _ 9 88 Tryz.underlying42 hic hc0 hc1 hc2 rfl (by decide) (.slice (some ⟨gE,0,none⟩) 0 0) 0 [] rfl (HE.out) w.heap.size (.slice oa on oc) cs5 rfl (HR5.out _ J.out) on HL5.out.1 HL5.out.2.1 (by have:=HL5.out.2.2;unfold maxLen;omega) (by have:=HL5.out.2.2;omega) (J.out.size) ?_;intro v8 w8 q1 q2;have HV8:=zH (show w8.ownsRow w1.heap.size 51 9 v8 on cs5 by have h:=q1;rw[List.nil_append,Nat.zero_add] at h;exact h);have J8:=zH (J.out.grown q2 (J.out.size) (fun g hg=>by have:=(HE.out.lt gE rfl).1;simp[Value.ownBlock] at hg;omega))
            refine hK.out _ _ ?_ (fun hHeld=>?_)
            · (try dsimp only);exact HS.out _ J8.out
            clear hK K
            (try simp only[zqa,zqb,zqc,Act.put,zqd,zqe,zqf])
            clear q1 q2 J HE
            have J:=J8
            clear J8
            generalize w8=v278 at*
            refine wpAnyH_ready (rs:=[14]) (by kernel_rfl) (by simp) ?_
            refine AllReadyH.cons (o:=_) rfl (fun K hK=>?_) AllReadyH.nil
            focus (
             go_simp
             refine hK.out _ _ ?_ (fun hHeld=>?_)
             · (try dsimp only);exact HS.out _ (J.out.alloc J.out.size _)
             clear hK K
             (try simp only[zqa,zqb,zqc,Act.put,zqd,zqe,zqf])
             have J2:=zH (J.out.alloc (o:=.cells #[zi (ev.op.kind:Int),zi (ev.op.key:Int),zi (ev.op.hi:Int),zi (ev.op.value:Int),zi (ev.res.e:Int),zi (ev.res.value:Int),.slice pa pn pc,zi (ev.res.over:Int),zi (ev.res.reason:Int)] 51) J.out.size)
             have HC:=zH (heap_alloc_new v278 (.cells #[zi (ev.op.kind:Int),zi (ev.op.key:Int),zi (ev.op.hi:Int),zi (ev.op.value:Int),zi (ev.res.e:Int),zi (ev.res.value:Int),.slice pa pn pc,zi (ev.res.over:Int),zi (ev.res.reason:Int)] 51))
             have HV:=zH (own_below' HV8.out (.cells #[zi (ev.op.kind:Int),zi (ev.op.key:Int),zi (ev.op.hi:Int),zi (ev.op.value:Int),zi (ev.res.e:Int),zi (ev.res.value:Int),.slice pa pn pc,zi (ev.res.over:Int),zi (ev.res.reason:Int)] 51))
             clear HV8
             clear J
             generalize v278.alloc _=wx at*
             generalize v278.heap.size=gC at*
             have J:=J2
             clear J2
             have HV8:=HV
             clear HV
            )
            rotate_left
           )
           rotate_left
           focus (
            go_simp
            refine hK.out _ _ ?_ (fun hHeld=>?_)
            · (try dsimp only);exact HS.out _ (J.out.alloc J.out.size _)
            clear hK K
            (try simp only[zqa,zqb,zqc,Act.put,zqd,zqe,zqf])
            have J2:=zH (J.out.alloc (o:=.cells #[zi (ev.op.kind:Int),zi (ev.op.key:Int),zi (ev.op.hi:Int),zi (ev.op.value:Int),zi (ev.res.e:Int),zi (ev.res.value:Int),.slice pa pn pc,zi (ev.res.over:Int),zi (ev.res.reason:Int)] 51) J.out.size)
            have HC:=zH (heap_alloc_new v2 (.cells #[zi (ev.op.kind:Int),zi (ev.op.key:Int),zi (ev.op.hi:Int),zi (ev.op.value:Int),zi (ev.res.e:Int),zi (ev.res.value:Int),.slice pa pn pc,zi (ev.res.over:Int),zi (ev.res.reason:Int)] 51))
            have HE2:=zH (own_below' HE.out (.cells #[zi (ev.op.kind:Int),zi (ev.op.key:Int),zi (ev.op.hi:Int),zi (ev.op.value:Int),zi (ev.res.e:Int),zi (ev.res.value:Int),.slice pa pn pc,zi (ev.res.over:Int),zi (ev.res.reason:Int)] 51))
            have HNE:=zH (Nat.ne_of_gt (HE.out.lt gE rfl).2)
            clear HE
            clear J
            generalize v2.alloc _=v2714 at*
            generalize v2.heap.size=gC at*
            have J:=J2
            clear J2
            have HE:=HE2
            clear HE2
            refine wpAnyH_ready (rs:=[8]) (by kernel_rfl) (by simp) ?_
            refine AllReadyH.cons (o:=_) rfl (fun K hK=>?_) AllReadyH.nil
            focus (
             rw[if_pos (by rfl)]
             refine Ow.wp_append_row _ (.tmp 87) (.tmp 92) 42 rfl w1.heap.size 51 ic _ 9 88 Tryz.underlying42 hic hc0 hc1 hc2 rfl (by decide) (.slice (some ⟨gE,0,none⟩) 0 0) 0 [] rfl (HE.out) w.heap.size (.slice oa on oc) cs5 rfl (HR5.out _ J.out) on HL5.out.1 HL5.out.2.1 (by have:=HL5.out.2.2;unfold maxLen;omega) (by have:=HL5.out.2.2;omega) (J.out.size) ?_;intro v8 w8 q1 q2;have HV8:=zH (show w8.ownsRow w1.heap.size 51 9 v8 on cs5 by have h:=q1;rw[List.nil_append,Nat.zero_add] at h;exact h);have J8:=zH (J.out.grown q2 (J.out.size) (fun g hg=>by have:=(HE.out.lt gE rfl).1;simp[Value.ownBlock] at hg;omega))
             refine hK.out _ _ ?_ (fun hHeld=>?_)
             · (try dsimp only);exact HS.out _ J8.out
             clear hK K
             (try simp only[zqa,zqb,zqc,Act.put,zqd,zqe,zqf])
             have HC2:=zH ((q2.block gC (lt_of HC.out) (fun e=>by simp[Value.ownBlock] at e;have:=HNE.out;omega)).trans HC.out)
             clear HC
             have HC:=HC2
             clear HC2 HNE
             clear q1 q2 J HE
             have J:=J8
             clear J8
             generalize w8=wx at*
            )
            rotate_left
           )
           rotate_left
          )
          rotate_left 2
          focus (
           go_simp
           refine hK.out _ _ ?_ (fun hHeld=>?_)
           · (try dsimp only);exact HS.out _ (J.out.alloc J.out.size _)
           clear hK K
           (try simp only[zqa,zqb,zqc,Act.put,zqd,zqe,zqf])
           have J2:=zH (J.out.alloc (o:=.cells #[zi (ev.op.kind:Int),zi (ev.op.key:Int),zi (ev.op.hi:Int),zi (ev.op.value:Int),zi (ev.res.e:Int),zi (ev.res.value:Int),.slice pa pn pc,zi (ev.res.over:Int),zi (ev.res.reason:Int)] 51) J.out.size)
           have HC:=zH (heap_alloc_new v2 (.cells #[zi (ev.op.kind:Int),zi (ev.op.key:Int),zi (ev.op.hi:Int),zi (ev.op.value:Int),zi (ev.res.e:Int),zi (ev.res.value:Int),.slice pa pn pc,zi (ev.res.over:Int),zi (ev.res.reason:Int)] 51))
           have HE2:=zH (own_below' HE.out (.cells #[zi (ev.op.kind:Int),zi (ev.op.key:Int),zi (ev.op.hi:Int),zi (ev.op.value:Int),zi (ev.res.e:Int),zi (ev.res.value:Int),.slice pa pn pc,zi (ev.res.over:Int),zi (ev.res.reason:Int)] 51))
           have HNE:=zH (Nat.ne_of_gt (HE.out.lt gE rfl).2)
           clear HE
           clear J
           generalize v2.alloc _=v214 at*
           generalize v2.heap.size=gC at*
           have J:=J2
           clear J2
           have HE:=HE2
           clear HE2
           refine wpAnyH_ready (rs:=[7]) (by kernel_rfl) (by simp) ?_
           refine AllReadyH.cons (o:=_) rfl (fun K hK=>?_) AllReadyH.nil
           focus (
            have y5:=(HD5.out _ J.out).1
            go_simp
            refine hK.out _ _ ?_ (fun hHeld=>?_)
            · (try dsimp only);exact hHeld
            clear hK K
            (try simp only[zqa,zqb,zqc,Act.put,zqd,zqe,zqf])
            clear y5
            refine wpAnyH_ready (rs:=[8]) (by kernel_rfl) (by simp) ?_
            refine AllReadyH.cons (o:=_) rfl (fun K hK=>?_) AllReadyH.nil
            focus (
             rw[if_pos (by rfl)]
             refine Ow.wp_append_row _ (.tmp 87) (.tmp 92) 42 rfl w1.heap.size 51 ic _ 9 88 Tryz.underlying42 hic hc0 hc1 hc2 rfl (by decide) (.slice (some ⟨gE,0,none⟩) 0 0) 0 [] rfl (HE.out) w.heap.size (.slice oa on oc) cs5 rfl (HR5.out _ J.out) on HL5.out.1 HL5.out.2.1 (by have:=HL5.out.2.2;unfold maxLen;omega) (by have:=HL5.out.2.2;omega) (J.out.size) ?_;intro v8 w8 q1 q2;have HV8:=zH (show w8.ownsRow w1.heap.size 51 9 v8 on cs5 by have h:=q1;rw[List.nil_append,Nat.zero_add] at h;exact h);have J8:=zH (J.out.grown q2 (J.out.size) (fun g hg=>by have:=(HE.out.lt gE rfl).1;simp[Value.ownBlock] at hg;omega))
             refine hK.out _ _ ?_ (fun hHeld=>?_)
             · (try dsimp only);exact HS.out _ J8.out
             clear hK K
             (try simp only[zqa,zqb,zqc,Act.put,zqd,zqe,zqf])
             have HC2:=zH ((q2.block gC (lt_of HC.out) (fun e=>by simp[Value.ownBlock] at e;have:=HNE.out;omega)).trans HC.out)
             clear HC
             have HC:=HC2
             clear HC2 HNE
             clear q1 q2 J HE
             have J:=J8
             clear J8
             generalize w8=wx at*
            )
            rotate_left
           )
           rotate_left
          )
          rotate_left
         )
         rotate_left 3
         focus (
          have y5:=(HD5.out _ J.out).1
          go_simp
          refine hK.out _ _ ?_ (fun hHeld=>?_)
          · (try dsimp only);exact hHeld
          clear hK K
          (try simp only[zqa,zqb,zqc,Act.put,zqd,zqe,zqf])
          clear y5
          refine wpAnyH_ready (rs:=[2,14]) (by kernel_rfl) (by simp) ?_
          refine AllReadyH.cons (o:=_) rfl (fun K hK=>?_) (AllReadyH.cons (o:=_) rfl (fun K hK=>?_) AllReadyH.nil)
          focus (
           go_simp
           refine hK.out _ _ ?_ (fun hHeld=>?_)
           · (try dsimp only);exact HS.out _ (J.out.alloc J.out.size _)
           clear hK K
           (try simp only[zqa,zqb,zqc,Act.put,zqd,zqe,zqf])
           have J2:=zH (J.out.alloc (o:=.cells #[] 51) J.out.size)
           have HE:=zH (emptyRow (T:=51) (size:=9) J.out.size)
           clear J
           generalize vd.alloc _=v27 at*
           generalize vd.heap.size=gE at*
           have J:=J2
           clear J2
           refine wpAnyH_ready (rs:=[8,14]) (by kernel_rfl) (by simp) ?_
           refine AllReadyH.cons (o:=_) rfl (fun K hK=>?_) (AllReadyH.cons (o:=_) rfl (fun K hK=>?_) AllReadyH.nil)
           focus (
            rw[if_pos (by rfl)]
            refine Ow.wp_append_row _ (.tmp 87) (.tmp 92) 42 rfl w1.heap.size 51 ic _ 9 88 Tryz.underlying42 hic hc0 hc1 hc2 rfl (by decide) (.slice (some ⟨gE,0,none⟩) 0 0) 0 [] rfl (HE.out) w.heap.size (.slice oa on oc) cs5 rfl (HR5.out _ J.out) on HL5.out.1 HL5.out.2.1 (by have:=HL5.out.2.2;unfold maxLen;omega) (by have:=HL5.out.2.2;omega) (J.out.size) ?_;intro v8 w8 q1 q2;have HV8:=zH (show w8.ownsRow w1.heap.size 51 9 v8 on cs5 by have h:=q1;rw[List.nil_append,Nat.zero_add] at h;exact h);have J8:=zH (J.out.grown q2 (J.out.size) (fun g hg=>by have:=(HE.out.lt gE rfl).1;simp[Value.ownBlock] at hg;omega))
            refine hK.out _ _ ?_ (fun hHeld=>?_)
            · (try dsimp only);exact HS.out _ J8.out
            clear hK K
            (try simp only[zqa,zqb,zqc,Act.put,zqd,zqe,zqf])
            clear q1 q2 J HE
            have J:=J8
            clear J8
            generalize w8=v278 at*
            refine wpAnyH_ready (rs:=[14]) (by kernel_rfl) (by simp) ?_
            refine AllReadyH.cons (o:=_) rfl (fun K hK=>?_) AllReadyH.nil
            focus (
             go_simp
             refine hK.out _ _ ?_ (fun hHeld=>?_)
             · (try dsimp only);exact HS.out _ (J.out.alloc J.out.size _)
             clear hK K
             (try simp only[zqa,zqb,zqc,Act.put,zqd,zqe,zqf])
             have J2:=zH (J.out.alloc (o:=.cells #[zi (ev.op.kind:Int),zi (ev.op.key:Int),zi (ev.op.hi:Int),zi (ev.op.value:Int),zi (ev.res.e:Int),zi (ev.res.value:Int),.slice pa pn pc,zi (ev.res.over:Int),zi (ev.res.reason:Int)] 51) J.out.size)
             have HC:=zH (heap_alloc_new v278 (.cells #[zi (ev.op.kind:Int),zi (ev.op.key:Int),zi (ev.op.hi:Int),zi (ev.op.value:Int),zi (ev.res.e:Int),zi (ev.res.value:Int),.slice pa pn pc,zi (ev.res.over:Int),zi (ev.res.reason:Int)] 51))
             have HV:=zH (own_below' HV8.out (.cells #[zi (ev.op.kind:Int),zi (ev.op.key:Int),zi (ev.op.hi:Int),zi (ev.op.value:Int),zi (ev.res.e:Int),zi (ev.res.value:Int),.slice pa pn pc,zi (ev.res.over:Int),zi (ev.res.reason:Int)] 51))
             clear HV8
             clear J
             generalize v278.alloc _=wx at*
             generalize v278.heap.size=gC at*
             have J:=J2
             clear J2
             have HV8:=HV
             clear HV
            )
            rotate_left
           )
           rotate_left
           focus (
            go_simp
            refine hK.out _ _ ?_ (fun hHeld=>?_)
            · (try dsimp only);exact HS.out _ (J.out.alloc J.out.size _)
            clear hK K
            (try simp only[zqa,zqb,zqc,Act.put,zqd,zqe,zqf])
            have J2:=zH (J.out.alloc (o:=.cells #[zi (ev.op.kind:Int),zi (ev.op.key:Int),zi (ev.op.hi:Int),zi (ev.op.value:Int),zi (ev.res.e:Int),zi (ev.res.value:Int),.slice pa pn pc,zi (ev.res.over:Int),zi (ev.res.reason:Int)] 51) J.out.size)
            have HC:=zH (heap_alloc_new v27 (.cells #[zi (ev.op.kind:Int),zi (ev.op.key:Int),zi (ev.op.hi:Int),zi (ev.op.value:Int),zi (ev.res.e:Int),zi (ev.res.value:Int),.slice pa pn pc,zi (ev.res.over:Int),zi (ev.res.reason:Int)] 51))
            have HE2:=zH (own_below' HE.out (.cells #[zi (ev.op.kind:Int),zi (ev.op.key:Int),zi (ev.op.hi:Int),zi (ev.op.value:Int),zi (ev.res.e:Int),zi (ev.res.value:Int),.slice pa pn pc,zi (ev.res.over:Int),zi (ev.res.reason:Int)] 51))
            have HNE:=zH (Nat.ne_of_gt (HE.out.lt gE rfl).2)
            clear HE
            clear J
            generalize v27.alloc _=v2714 at*
            generalize v27.heap.size=gC at*
            have J:=J2
            clear J2
            have HE:=HE2
            clear HE2
            refine wpAnyH_ready (rs:=[8]) (by kernel_rfl) (by simp) ?_
            refine AllReadyH.cons (o:=_) rfl (fun K hK=>?_) AllReadyH.nil
            focus (
             rw[if_pos (by rfl)]
             refine Ow.wp_append_row _ (.tmp 87) (.tmp 92) 42 rfl w1.heap.size 51 ic _ 9 88 Tryz.underlying42 hic hc0 hc1 hc2 rfl (by decide) (.slice (some ⟨gE,0,none⟩) 0 0) 0 [] rfl (HE.out) w.heap.size (.slice oa on oc) cs5 rfl (HR5.out _ J.out) on HL5.out.1 HL5.out.2.1 (by have:=HL5.out.2.2;unfold maxLen;omega) (by have:=HL5.out.2.2;omega) (J.out.size) ?_;intro v8 w8 q1 q2;have HV8:=zH (show w8.ownsRow w1.heap.size 51 9 v8 on cs5 by have h:=q1;rw[List.nil_append,Nat.zero_add] at h;exact h);have J8:=zH (J.out.grown q2 (J.out.size) (fun g hg=>by have:=(HE.out.lt gE rfl).1;simp[Value.ownBlock] at hg;omega))
             refine hK.out _ _ ?_ (fun hHeld=>?_)
             · (try dsimp only);exact HS.out _ J8.out
             clear hK K
             (try simp only[zqa,zqb,zqc,Act.put,zqd,zqe,zqf])
             have HC2:=zH ((q2.block gC (lt_of HC.out) (fun e=>by simp[Value.ownBlock] at e;have:=HNE.out;omega)).trans HC.out)
             clear HC
             have HC:=HC2
             clear HC2 HNE
             clear q1 q2 J HE
             have J:=J8
             clear J8
             generalize w8=wx at*
            )
            rotate_left
           )
           rotate_left
          )
          rotate_left 2
          focus (
           go_simp
           refine hK.out _ _ ?_ (fun hHeld=>?_)
           · (try dsimp only);exact HS.out _ (J.out.alloc J.out.size _)
           clear hK K
           (try simp only[zqa,zqb,zqc,Act.put,zqd,zqe,zqf])
           have J2:=zH (J.out.alloc (o:=.cells #[zi (ev.op.kind:Int),zi (ev.op.key:Int),zi (ev.op.hi:Int),zi (ev.op.value:Int),zi (ev.res.e:Int),zi (ev.res.value:Int),.slice pa pn pc,zi (ev.res.over:Int),zi (ev.res.reason:Int)] 51) J.out.size)
           have HC:=zH (heap_alloc_new vd (.cells #[zi (ev.op.kind:Int),zi (ev.op.key:Int),zi (ev.op.hi:Int),zi (ev.op.value:Int),zi (ev.res.e:Int),zi (ev.res.value:Int),.slice pa pn pc,zi (ev.res.over:Int),zi (ev.res.reason:Int)] 51))
           clear J
           generalize vd.alloc _=v714 at*
           generalize vd.heap.size=gC at*
           have J:=J2
           clear J2
           refine wpAnyH_ready (rs:=[2]) (by kernel_rfl) (by simp) ?_
           refine AllReadyH.cons (o:=_) rfl (fun K hK=>?_) AllReadyH.nil
           focus (
            go_simp
            refine hK.out _ _ ?_ (fun hHeld=>?_)
            · (try dsimp only);exact HS.out _ (J.out.alloc J.out.size _)
            clear hK K
            (try simp only[zqa,zqb,zqc,Act.put,zqd,zqe,zqf])
            have J2:=zH (J.out.alloc (o:=.cells #[] 51) J.out.size)
            have HE:=zH (emptyRow (T:=51) (size:=9) J.out.size)
            have HC2:=zH ((heap_alloc_old _ (.cells #[] 51) (lt_of HC.out)).trans HC.out)
            have HNE:=zH (Nat.ne_of_lt (lt_of HC.out))
            clear HC
            clear J
            generalize v714.alloc _=v2714 at*
            generalize v714.heap.size=gE at*
            have J:=J2
            clear J2
            have HC:=HC2
            clear HC2
            refine wpAnyH_ready (rs:=[8]) (by kernel_rfl) (by simp) ?_
            refine AllReadyH.cons (o:=_) rfl (fun K hK=>?_) AllReadyH.nil
            focus (
             rw[if_pos (by rfl)]
             refine Ow.wp_append_row _ (.tmp 87) (.tmp 92) 42 rfl w1.heap.size 51 ic _ 9 88 Tryz.underlying42 hic hc0 hc1 hc2 rfl (by decide) (.slice (some ⟨gE,0,none⟩) 0 0) 0 [] rfl (HE.out) w.heap.size (.slice oa on oc) cs5 rfl (HR5.out _ J.out) on HL5.out.1 HL5.out.2.1 (by have:=HL5.out.2.2;unfold maxLen;omega) (by have:=HL5.out.2.2;omega) (J.out.size) ?_;intro v8 w8 q1 q2;have HV8:=zH (show w8.ownsRow w1.heap.size 51 9 v8 on cs5 by have h:=q1;rw[List.nil_append,Nat.zero_add] at h;exact h);have J8:=zH (J.out.grown q2 (J.out.size) (fun g hg=>by have:=(HE.out.lt gE rfl).1;simp[Value.ownBlock] at hg;omega))
             refine hK.out _ _ ?_ (fun hHeld=>?_)
             · (try dsimp only);exact HS.out _ J8.out
             clear hK K
             (try simp only[zqa,zqb,zqc,Act.put,zqd,zqe,zqf])
             have HC2:=zH ((q2.block gC (lt_of HC.out) (fun e=>by simp[Value.ownBlock] at e;have:=HNE.out;omega)).trans HC.out)
             clear HC
             have HC:=HC2
             clear HC2 HNE
             clear q1 q2 J HE
             have J:=J8
             clear J8
             generalize w8=wx at*
            )
            rotate_left
           )
           rotate_left
          )
          rotate_left
         )
         rotate_left 3
         focus (
          go_simp
          refine hK.out _ _ ?_ (fun hHeld=>?_)
          · (try dsimp only);exact HS.out _ (J.out.alloc J.out.size _)
          clear hK K
          (try simp only[zqa,zqb,zqc,Act.put,zqd,zqe,zqf])
          have J2:=zH (J.out.alloc (o:=.cells #[zi (ev.op.kind:Int),zi (ev.op.key:Int),zi (ev.op.hi:Int),zi (ev.op.value:Int),zi (ev.res.e:Int),zi (ev.res.value:Int),.slice pa pn pc,zi (ev.res.over:Int),zi (ev.res.reason:Int)] 51) J.out.size)
          have HC:=zH (heap_alloc_new vd (.cells #[zi (ev.op.kind:Int),zi (ev.op.key:Int),zi (ev.op.hi:Int),zi (ev.op.value:Int),zi (ev.res.e:Int),zi (ev.res.value:Int),.slice pa pn pc,zi (ev.res.over:Int),zi (ev.res.reason:Int)] 51))
          clear J
          generalize vd.alloc _=v14 at*
          generalize vd.heap.size=gC at*
          have J:=J2
          clear J2
          refine wpAnyH_ready (rs:=[2,7]) (by kernel_rfl) (by simp) ?_
          refine AllReadyH.cons (o:=_) rfl (fun K hK=>?_) (AllReadyH.cons (o:=_) rfl (fun K hK=>?_) AllReadyH.nil)
          focus (
           go_simp
           refine hK.out _ _ ?_ (fun hHeld=>?_)
           · (try dsimp only);exact HS.out _ (J.out.alloc J.out.size _)
           clear hK K
           (try simp only[zqa,zqb,zqc,Act.put,zqd,zqe,zqf])
           have J2:=zH (J.out.alloc (o:=.cells #[] 51) J.out.size)
           have HE:=zH (emptyRow (T:=51) (size:=9) J.out.size)
           have HC2:=zH ((heap_alloc_old _ (.cells #[] 51) (lt_of HC.out)).trans HC.out)
           have HNE:=zH (Nat.ne_of_lt (lt_of HC.out))
           clear HC
           clear J
           generalize v14.alloc _=v214 at*
           generalize v14.heap.size=gE at*
           have J:=J2
           clear J2
           have HC:=HC2
           clear HC2
           refine wpAnyH_ready (rs:=[7]) (by kernel_rfl) (by simp) ?_
           refine AllReadyH.cons (o:=_) rfl (fun K hK=>?_) AllReadyH.nil
           focus (
            have y5:=(HD5.out _ J.out).1
            go_simp
            refine hK.out _ _ ?_ (fun hHeld=>?_)
            · (try dsimp only);exact hHeld
            clear hK K
            (try simp only[zqa,zqb,zqc,Act.put,zqd,zqe,zqf])
            clear y5
            refine wpAnyH_ready (rs:=[8]) (by kernel_rfl) (by simp) ?_
            refine AllReadyH.cons (o:=_) rfl (fun K hK=>?_) AllReadyH.nil
            focus (
             rw[if_pos (by rfl)]
             refine Ow.wp_append_row _ (.tmp 87) (.tmp 92) 42 rfl w1.heap.size 51 ic _ 9 88 Tryz.underlying42 hic hc0 hc1 hc2 rfl (by decide) (.slice (some ⟨gE,0,none⟩) 0 0) 0 [] rfl (HE.out) w.heap.size (.slice oa on oc) cs5 rfl (HR5.out _ J.out) on HL5.out.1 HL5.out.2.1 (by have:=HL5.out.2.2;unfold maxLen;omega) (by have:=HL5.out.2.2;omega) (J.out.size) ?_;intro v8 w8 q1 q2;have HV8:=zH (show w8.ownsRow w1.heap.size 51 9 v8 on cs5 by have h:=q1;rw[List.nil_append,Nat.zero_add] at h;exact h);have J8:=zH (J.out.grown q2 (J.out.size) (fun g hg=>by have:=(HE.out.lt gE rfl).1;simp[Value.ownBlock] at hg;omega))
             refine hK.out _ _ ?_ (fun hHeld=>?_)
             · (try dsimp only);exact HS.out _ J8.out
             clear hK K
             (try simp only[zqa,zqb,zqc,Act.put,zqd,zqe,zqf])
             have HC2:=zH ((q2.block gC (lt_of HC.out) (fun e=>by simp[Value.ownBlock] at e;have:=HNE.out;omega)).trans HC.out)
             clear HC
             have HC:=HC2
             clear HC2 HNE
             clear q1 q2 J HE
             have J:=J8
             clear J8
             generalize w8=wx at*
            )
            rotate_left
           )
           rotate_left
          )
          rotate_left
          focus (
           have y5:=(HD5.out _ J.out).1
           go_simp
           refine hK.out _ _ ?_ (fun hHeld=>?_)
           · (try dsimp only);exact hHeld
           clear hK K
           (try simp only[zqa,zqb,zqc,Act.put,zqd,zqe,zqf])
           clear y5
           refine wpAnyH_ready (rs:=[2]) (by kernel_rfl) (by simp) ?_
           refine AllReadyH.cons (o:=_) rfl (fun K hK=>?_) AllReadyH.nil
           focus (
            go_simp
            refine hK.out _ _ ?_ (fun hHeld=>?_)
            · (try dsimp only);exact HS.out _ (J.out.alloc J.out.size _)
            clear hK K
            (try simp only[zqa,zqb,zqc,Act.put,zqd,zqe,zqf])
            have J2:=zH (J.out.alloc (o:=.cells #[] 51) J.out.size)
            have HE:=zH (emptyRow (T:=51) (size:=9) J.out.size)
            have HC2:=zH ((heap_alloc_old _ (.cells #[] 51) (lt_of HC.out)).trans HC.out)
            have HNE:=zH (Nat.ne_of_lt (lt_of HC.out))
            clear HC
            clear J
            generalize v14.alloc _=v2714 at*
            generalize v14.heap.size=gE at*
            have J:=J2
            clear J2
            have HC:=HC2
            clear HC2
            refine wpAnyH_ready (rs:=[8]) (by kernel_rfl) (by simp) ?_
            refine AllReadyH.cons (o:=_) rfl (fun K hK=>?_) AllReadyH.nil
            focus (
             rw[if_pos (by rfl)]
             refine Ow.wp_append_row _ (.tmp 87) (.tmp 92) 42 rfl w1.heap.size 51 ic _ 9 88 Tryz.underlying42 hic hc0 hc1 hc2 rfl (by decide) (.slice (some ⟨gE,0,none⟩) 0 0) 0 [] rfl (HE.out) w.heap.size (.slice oa on oc) cs5 rfl (HR5.out _ J.out) on HL5.out.1 HL5.out.2.1 (by have:=HL5.out.2.2;unfold maxLen;omega) (by have:=HL5.out.2.2;omega) (J.out.size) ?_;intro v8 w8 q1 q2;have HV8:=zH (show w8.ownsRow w1.heap.size 51 9 v8 on cs5 by have h:=q1;rw[List.nil_append,Nat.zero_add] at h;exact h);have J8:=zH (J.out.grown q2 (J.out.size) (fun g hg=>by have:=(HE.out.lt gE rfl).1;simp[Value.ownBlock] at hg;omega))
             refine hK.out _ _ ?_ (fun hHeld=>?_)
             · (try dsimp only);exact HS.out _ J8.out
             clear hK K
             (try simp only[zqa,zqb,zqc,Act.put,zqd,zqe,zqf])
             have HC2:=zH ((q2.block gC (lt_of HC.out) (fun e=>by simp[Value.ownBlock] at e;have:=HNE.out;omega)).trans HC.out)
             clear HC
             have HC:=HC2
             clear HC2 HNE
             clear q1 q2 J HE
             have J:=J8
             clear J8
             generalize w8=wx at*
            )
            rotate_left
           )
           rotate_left
          )
          rotate_left
         )
         rotate_left 2
         all_goals (
          refine wpAnyH_ready (rs:=[15]) (by kernel_rfl) (by simp) ?_
          refine AllReadyH.cons (o:=_) rfl (fun K hK=>?_) AllReadyH.nil
          rw[if_pos (by rfl)]
          refine Ow.wp_append_to _ (.tmp 93) (.tmp 99) 42 rfl w1.heap.size 51 ic _ 9 88 Tryz.underlying42 hic hc0 hc1 hc2 rfl (by decide) v8 on cs5 rfl HV8.out ⟨gC,0,none⟩ 1 1 (by omega) [zi (ev.op.kind:Int),zi (ev.op.key:Int),zi (ev.op.hi:Int),zi (ev.op.value:Int),zi (ev.res.e:Int),zi (ev.res.value:Int),.slice pa pn pc,zi (ev.res.over:Int),zi (ev.res.reason:Int)] rfl rfl (fun j u hu=>blk_row HC.out j u hu) (by intro u hu;simp at hu;rcases hu with rfl|rfl|rfl|rfl|rfl|rfl|rfl|rfl|rfl<;>rfl) (by have:=HL5.out.2.2;unfold maxLen;omega) (by have:=HL5.out.2.2;omega) (J.out.size) ?_;intro v9 w9 q1 q2 q3;have J9:=zH (J.out.grown q2 (J.out.size) (fun g hg=>(HV8.out.lt g hg).1));obtain⟨av,cv,rfl,_⟩:=Ow.own_form q1;have HV9:=zH q1;clear q1 q2 q3
          refine hK.out _ _ ?_ (fun hHeld=>?_)
          · (try dsimp only);exact HS.out _ J9.out
          clear hK K
          (try simp only[zqa,zqb,zqc,Act.put,zqd,zqe,zqf])
          obtain⟨y9,f9⟩:=HD5.out _ J9.out
          refine zqt (i:=16) rfl hHeld ?_
          (try simp only[zqa,zqb,zqc,Act.put,zqd,zqe,zqf])
          refine zqt (i:=17) rfl hHeld ?_
          (try simp only[zqa,zqb,zqc,Act.put,zqd,zqe,zqf])
          refine wpAnyH_ready (rs:=[18]) (by kernel_rfl) (by simp) ?_
          refine AllReadyH.cons (o:=_) rfl (fun K hK=>?_) AllReadyH.nil
          go_simp
          refine hK.out _ _ ?_ (fun hHeld=>?_)
          · (try dsimp only);exact⟨setKeep (by exact HDG.out) hHeld.1,setKeep (by exact HDG.out) hHeld.2.1,setKeep (by exact HDG.out) hHeld.2.2.1,setKeep (by exact HDG.out) hHeld.2.2.2.1,setKeep (by exact HDG.out) hHeld.2.2.2.2.1,setKeep (by exact HDG.out) hHeld.2.2.2.2.2.1,setKeep (by exact HDG.out) hHeld.2.2.2.2.2.2.1,setKeep (by exact HDG.out) hHeld.2.2.2.2.2.2.2.1,setKeep (by exact HDG.out) hHeld.2.2.2.2.2.2.2.2⟩
          clear hK K
          (try simp only[zqa,zqb,zqc,Act.put,zqd,zqe,zqf])
          refine wpAnyH_done (by kernel_rfl) ?_ _
          clear y9 f9 hHeld
         )
         all_goals exact CONT gE v8 gC av cv w9 ⟨J9.out,HV9.out⟩
        case h2=>
         intro gE v8 gC av cv w9 ⟨j9,hv9⟩;have J9:=zH j9;have HV9:=zH hv9;clear j9 hv9;go_wp2
         go_roundw
         case rel=>
          obtain⟨hL,hek,hlt,hn,hnn,hev,hrun,hpr,hpn,hpe,hdn,hdl⟩:=HX.out;obtain⟨hMx,hr,hdk,ht,hd,hkl⟩:=HM.out;obtain⟨_,hO'⟩:=HI.out;subst hO';subst hpn;have hon:=HON.out;refine⟨k+1,⟨O.deals.set kk {d with ops:=d.ops++[(ev.op,ev.res)]},O.bonds,O.last⟩,ds.set kk ({d with ops:=d.ops++[(ev.op,ev.res)]},.slice av (on+1) cv),rfl,rfl,⟨by omega,hrun,?_,?_,?_⟩⟩
          · have hb1:Below w.heap.size w w1:=hL.bel.trans (H1.out.1.mono hL.bel.size)
            exact hMx.putOps (z:=O.last) hb1.size hdn hdk J9.out HQ5.out (own_low (base':=0) (own_ps hpr (PS.below hb1)) (Nat.zero_le _)) (by have h:=HV9.out;rw[hon] at h ⊢;exact h)
          · have:=hL.few
            simp;omega
          · have z:=(hL.bel.trans (H1.out.1.mono hL.bel.size))
            have z9:=z.trans (J9.out.mono z.size);have q:=But.setCell w9 ⟨dg,kk*6+5,none⟩ (.slice av (on+1) cv);exact⟨q.os.trans z9.os,q.tape.trans z9.tape,q.output.trans z9.output,by rw[q.size];exact z9.size,fun b hb=>(q.block b (by have h9:=(hr.lt dg rfl).1;show b≠dg;omega)).trans (z9.block b hb)⟩
         case measure=>have:=HX.out.2.2.1;simp[intOf];omega
      · as_aux_lemma=>
         replace Z0:w1.cell? ⟨wr.heap.size,0,none⟩=some (Value.int .i64 3):=by rw[h2] at Z0;exact Z0
         obtain⟨h4,h5,h6⟩:=h3;replace D4:w1.cell? ⟨dg,kk*6+4,none⟩=some (zu 0):=by rw[h4] at D4;exact D4
         have m2:((O.last:Int)<(ev.n:Int))=True:=by simp;omega
         have m3:decide ((O.last:Int)<(ev.n:Int))=true:=by simp;omega
         have HI:=zH (zA h5 h6);have Z2':(w1.setCell ⟨dg,kk*6+4,none⟩ (zu (ev.n:Int))).cell? ⟨wr.heap.size,2,none⟩=some (zu (ev.n:Int)):=by
          have h7:=((But.setCell w1 ⟨dg,kk*6+4,none⟩ (zu (ev.n:Int))).block wr.heap.size (by have h9:=(HX.out.1.mem.dr.lt dg rfl).2;show wr.heap.size≠dg;omega)).trans H1.out.2.1;rw[cell_of_row _ _ _ _ _ _ h7];rfl
         clear h2 h4 h5 h6;go_wp2_with (go_at_call 48;refine (HAT.out _).mono ?_;rintro e w2 ⟨rfl,rfl⟩)
         go_roundw
         case rel=>
          obtain⟨hL,hek,hlt,hn,hnn,hev,hrun,hpr,hpn,hpe,hdn,hdl⟩:=HX.out;obtain⟨hMx,hr,hdk,ht,hd,hkl⟩:=HM.out;obtain⟨_,hO'⟩:=HI.out;subst hO';refine⟨k+1,⟨O.deals.set kk {d with end_:=ev.n},O.bonds,ev.n⟩,ds.set kk ({d with end_:=ev.n},dv),rfl,rfl,⟨by omega,hrun,?_,?_,?_⟩⟩
          · exact hMx.put (z:=ev.n) (d':={d with end_:=ev.n}) (j:=4) (u:=zu (ev.n:Int)) hdn hdk (by omega) rfl rfl
          · have:=hL.few
            simp;omega
          · have z:=hL.bel.trans (H1.out.1.mono hL.bel.size)
            have q:=But.setCell w1 ⟨dg,kk*6+4,none⟩ (zu (ev.n:Int));exact⟨q.os.trans z.os,q.tape.trans z.tape,q.output.trans z.output,by rw[q.size];exact z.size,fun b hb=>(q.block b (by have h9:=(hr.lt dg rfl).1;show b≠dg;omega)).trans (z.block b hb)⟩
         case measure=>have:=HX.out.2.2.1;simp[intOf];omega
      · as_aux_lemma=>
        obtain⟨j,c,hn2,hc,hj2,hjk,hcs,hce,hde,hbl,hO'⟩:=h3;replace Z0:w1.cell? ⟨wr.heap.size,0,none⟩=some (Value.int .i64 4):=by rw[h2] at Z0;exact Z0
        obtain⟨cvv,hck⟩:=HM.out.1.get hc;have hjl:j<dn:=by have:=(List.getElem?_eq_some_iff.mp hc).1;have:=HX.out.2.2.2.2.2.2.2.2.2.2.2;omega
        have hr:=HM.out.2.1;have C2:w1.cell? ⟨dg,j*6+2,none⟩=some (zi (c.state:Int)):=by rw[hr.cellAt (j*6+2) (by omega),dqsCs_get _ _ _ (by omega),hck];rfl
        have C4:w1.cell? ⟨dg,j*6+4,none⟩=some (zu (c.end_:Int)):=by rw[hr.cellAt (j*6+4) (by omega),dqsCs_get _ _ _ (by omega),hck];rfl
        obtain⟨ib,hib,hb0,hb1,hb2⟩:=info_parts infoBd;obtain⟨bn,hbn⟩:∃ bn,bn=O.bonds.length:=⟨_,rfl⟩
        have hbr:=HM.out.1.bd;rw[←hbn] at hbr hbl;obtain⟨ba,bc,rfl,_⟩:=Ow.own_form hbr;have HAT2:Hid (∀ w,Calls Tryz.prog 48 #[.slice (some ⟨dg,0,none⟩) dn dc,zi (ev.n:Int)] w fun e w'=>e=.returned (zi (j:Int))∧w=w'):=by
         have h:=at_yes (some ⟨dg,0,none⟩) dn dc j hjl (by have:=HX.out.1.few;have:=HX.out.2.2.2.2.2.2.2.2.2.2.2;have:=HX.out.2.2.1;have:=HX.out.2.2.2.1;omega);rw[←hn2] at h;exact zH h
        have p0:((ev.n:Int)≤20000)=True:=by simp;omega
        have p0':decide ((ev.n:Int)≤20000)=true:=by simp;omega
        have p0n:(ev.n≤20000)=True:=by simp;omega
        have p1:IntKind.i64.wrap (ev.n:Int)=(ev.n:Int):=by rw[IntKind.wrap_i64];omega
        have p2:((j:Int)=(kk:Int))=False:=by simp;omega
        have p2n:(j=kk)=False:=by simp;omega
        have p2b:((j:Int) !=(kk:Int))=true:=by simp;omega
        have p3:((c.state:Int)=4)=False:=by simp;omega
        have p3b:((c.state:Int) !=4)=true:=by simp;omega
        have p4:((c.end_:Int)=0)=False:=by simp;omega
        have p4b:((c.end_:Int) !=0)=true:=by simp;omega
        have p4n:(c.end_=0)=False:=by simp;omega
        have p5:(0:Int)≤(j:Int):=by omega
        have p5':((0:Int)≤(j:Int))=True:=by simp
        have p6:(j:Int)<(dn:Int):=by omega
        have HI:=zH (zA hn2 hO');have HBR:=zH hbr;have HBL:=zH (zA hbn hbl)
        rcases hde with hd0|hd0
        · replace D4:w1.cell? ⟨dg,kk*6+4,none⟩=some (zu 0):=by rw[hd0] at D4;exact D4
          clear h2 hn2 hc hj2 hjk hcs hce hbl hO' hck hjl hr hbn hbr hd0;go_upto_region 11 with (go_at_call 48;refine (HAT.out _).mono ?_;rintro e w2 ⟨rfl,rfl⟩)
          go_upto_region 31 with (go_at_call 48;refine (HAT2.out _).mono ?_;rintro e w2 ⟨rfl,rfl⟩)
          refine wp_region_held_drew (S:=fun w'=>w'.cell? ⟨dg,j*6+2,none⟩=some (zi (c.state:Int))∧w'.cell? ⟨dg,j*6+4,none⟩=some (zu (c.end_:Int))∧w'.cell? ⟨dg,kk*6+4,none⟩=some (zu 0)) (by kernel_rfl) ?_ (fun hHeld=>?_)
          · (try dsimp only);exact⟨C2,C4,D4⟩
          refine zqt (i:=0) rfl hHeld ?_
          (try simp only[zqa,zqb,zqc,Act.put,zqd,zqe,zqf])
          refine zqt (i:=1) rfl hHeld ?_
          (try simp only[zqa,zqb,zqc,Act.put,zqd,zqe,zqf])
          refine zqt (i:=2) rfl hHeld ?_
          (try simp only[zqa,zqb,zqc,Act.put,zqd,zqe,zqf])
          refine zqt (i:=3) rfl hHeld ?_
          (try simp only[zqa,zqb,zqc,Act.put,zqd,zqe,zqf])
          refine zqt (i:=4) rfl hHeld ?_
          (try simp only[zqa,zqb,zqc,Act.put,zqd,zqe,zqf])
          refine zqt (i:=5) rfl hHeld ?_
          (try simp only[zqa,zqb,zqc,Act.put,zqd,zqe,zqf])
          refine zqt (i:=6) rfl hHeld ?_
          (try simp only[zqa,zqb,zqc,Act.put,zqd,zqe,zqf])
          refine zqt (i:=7) rfl hHeld ?_
          (try simp only[zqa,zqb,zqc,Act.put,zqd,zqe,zqf])
          refine zqt (i:=8) rfl hHeld ?_
          (try simp only[zqa,zqb,zqc,Act.put,zqd,zqe,zqf])
          refine zqt (i:=9) rfl hHeld ?_
          (try simp only[zqa,zqb,zqc,Act.put,zqd,zqe,zqf])
          refine zqt (i:=10) rfl hHeld ?_
          (try simp only[zqa,zqb,zqc,Act.put,zqd,zqe,zqf])
          refine zqt (i:=11) rfl hHeld ?_
          (try simp only[zqa,zqb,zqc,Act.put,zqd,zqe,zqf])
          refine zqt (i:=12) rfl hHeld ?_
          (try simp only[zqa,zqb,zqc,Act.put,zqd,zqe,zqf])
          refine zqt (i:=13) rfl hHeld ?_
          (try simp only[zqa,zqb,zqc,Act.put,zqd,zqe,zqf])
          refine zqt (i:=14) rfl hHeld ?_
          (try simp only[zqa,zqb,zqc,Act.put,zqd,zqe,zqf])
          refine zqt (i:=15) rfl hHeld ?_
          (try simp only[zqa,zqb,zqc,Act.put,zqd,zqe,zqf])
          refine zqt (i:=16) rfl hHeld ?_
          (try simp only[zqa,zqb,zqc,Act.put,zqd,zqe,zqf])
          refine zqt (i:=17) rfl hHeld ?_
          (try simp only[zqa,zqb,zqc,Act.put,zqd,zqe,zqf])
          refine zqt (i:=18) rfl hHeld ?_
          (try simp only[zqa,zqb,zqc,Act.put,zqd,zqe,zqf])
          refine zqt (i:=19) rfl hHeld ?_
          (try simp only[zqa,zqb,zqc,Act.put,zqd,zqe,zqf])
          refine zqt (i:=20) rfl hHeld ?_
          (try simp only[zqa,zqb,zqc,Act.put,zqd,zqe,zqf])
          refine zqt (i:=21) rfl hHeld ?_
          (try simp only[zqa,zqb,zqc,Act.put,zqd,zqe,zqf])
          refine zqt (i:=22) rfl hHeld ?_
          (try simp only[zqa,zqb,zqc,Act.put,zqd,zqe,zqf])
          refine zqt (i:=23) rfl hHeld ?_
          (try simp only[zqa,zqb,zqc,Act.put,zqd,zqe,zqf])
          refine zqt (i:=24) rfl hHeld ?_
          (try simp only[zqa,zqb,zqc,Act.put,zqd,zqe,zqf])
          refine zqt (i:=25) rfl hHeld ?_
          (try simp only[zqa,zqb,zqc,Act.put,zqd,zqe,zqf])
          refine zqt (i:=26) rfl hHeld ?_
          (try simp only[zqa,zqb,zqc,Act.put,zqd,zqe,zqf])
          refine zqt (i:=27) rfl hHeld ?_
          (try simp only[zqa,zqb,zqc,Act.put,zqd,zqe,zqf])
          refine zqt (i:=28) rfl hHeld ?_
          (try simp only[zqa,zqb,zqc,Act.put,zqd,zqe,zqf])
          refine zqt (i:=29) rfl hHeld ?_
          (try simp only[zqa,zqb,zqc,Act.put,zqd,zqe,zqf])
          refine zqt (i:=30) rfl hHeld ?_
          (try simp only[zqa,zqb,zqc,Act.put,zqd,zqe,zqf])
          refine zqt (i:=31) rfl hHeld ?_
          (try simp only[zqa,zqb,zqc,Act.put,zqd,zqe,zqf])
          refine zqt (i:=32) rfl hHeld ?_
          (try simp only[zqa,zqb,zqc,Act.put,zqd,zqe,zqf])
          refine zqt (i:=33) rfl hHeld ?_
          (try simp only[zqa,zqb,zqc,Act.put,zqd,zqe,zqf])
          refine wpAnyH_take (i:=34) (v:=undef) rfl (by kernel_rfl) (by kernel_rfl) (by kernel_rfl) (fun _ _ _ h=>h) (Or.inr ⟨by rfl,rfl⟩) hHeld ?_
          (try simp only[zqa,zqb,zqc,Act.put,zqd,zqe,zqf])
          refine wpAnyH_take (i:=35) (v:=undef) rfl (by kernel_rfl) (by kernel_rfl) (by kernel_rfl) (fun _ _ _ h=>h) (Or.inr ⟨by rfl,rfl⟩) hHeld ?_
          (try simp only[zqa,zqb,zqc,Act.put,zqd,zqe,zqf])
          refine wpAnyH_take (i:=36) (v:=undef) rfl (by kernel_rfl) (by kernel_rfl) (by kernel_rfl) (fun _ _ _ h=>h) (Or.inr ⟨by rfl,rfl⟩) hHeld ?_
          (try simp only[zqa,zqb,zqc,Act.put,zqd,zqe,zqf])
          refine wpAnyH_take (i:=37) (v:=undef) rfl (by kernel_rfl) (by kernel_rfl) (by kernel_rfl) (fun _ _ _ h=>h) (Or.inr ⟨by rfl,rfl⟩) hHeld ?_
          (try simp only[zqa,zqb,zqc,Act.put,zqd,zqe,zqf])
          refine wpAnyH_take (i:=38) (v:=undef) rfl (by kernel_rfl) (by kernel_rfl) (by kernel_rfl) (fun _ _ _ h=>h) (Or.inr ⟨by rfl,rfl⟩) hHeld ?_
          (try simp only[zqa,zqb,zqc,Act.put,zqd,zqe,zqf])
          refine wpAnyH_take (i:=39) (v:=undef) rfl (by kernel_rfl) (by kernel_rfl) (by kernel_rfl) (fun _ _ _ h=>h) (Or.inr ⟨by rfl,rfl⟩) hHeld ?_
          (try simp only[zqa,zqb,zqc,Act.put,zqd,zqe,zqf])
          refine wpAnyH_take (i:=40) (v:=undef) rfl (by kernel_rfl) (by kernel_rfl) (by kernel_rfl) (fun _ _ _ h=>h) (Or.inr ⟨by rfl,rfl⟩) hHeld ?_
          (try simp only[zqa,zqb,zqc,Act.put,zqd,zqe,zqf])
          refine wpAnyH_take (i:=41) (v:=undef) rfl (by kernel_rfl) (by kernel_rfl) (by kernel_rfl) (fun _ _ _ h=>h) (Or.inr ⟨by rfl,rfl⟩) hHeld ?_
          (try simp only[zqa,zqb,zqc,Act.put,zqd,zqe,zqf])
          refine wpAnyH_take (i:=42) (v:=undef) rfl (by kernel_rfl) (by kernel_rfl) (by kernel_rfl) (fun _ _ _ h=>h) (Or.inr ⟨by rfl,rfl⟩) hHeld ?_
          (try simp only[zqa,zqb,zqc,Act.put,zqd,zqe,zqf])
          refine wpAnyH_take (i:=43) (v:=undef) rfl (by kernel_rfl) (by kernel_rfl) (by kernel_rfl) (fun _ _ _ h=>h) (Or.inr ⟨by rfl,rfl⟩) hHeld ?_
          (try simp only[zqa,zqb,zqc,Act.put,zqd,zqe,zqf])
          refine wpAnyH_take (i:=44) (v:=undef) rfl (by kernel_rfl) (by kernel_rfl) (by kernel_rfl) (fun _ _ _ h=>h) (Or.inr ⟨by rfl,rfl⟩) hHeld ?_
          (try simp only[zqa,zqb,zqc,Act.put,zqd,zqe,zqf])
          refine zqt (i:=45) rfl hHeld ?_
          (try simp only[zqa,zqb,zqc,Act.put,zqd,zqe,zqf])
          refine zqt (i:=46) rfl hHeld ?_
          (try simp only[zqa,zqb,zqc,Act.put,zqd,zqe,zqf])
          refine zqt (i:=47) rfl hHeld ?_
          (try simp only[zqa,zqb,zqc,Act.put,zqd,zqe,zqf])
          refine zqt (i:=48) rfl hHeld ?_
          (try simp only[zqa,zqb,zqc,Act.put,zqd,zqe,zqf])
          refine wpAnyH_done (by kernel_rfl) ?_ _;have Y1:w1.drew.cell? ⟨wr.heap.size,1,none⟩=some (zi (ev.t:Int)):=Z1;have Y2:w1.drew.cell? ⟨wr.heap.size,2,none⟩=some (zu (ev.n:Int)):=Z2;have HWD:=zH ((Below.refl w1.heap.size w1).drew);clear hHeld D2 D4 D5 F2 F4 C2 C4 Z0 Z1 Z2 Z3 Z4 Z5 Z6 Z7 Z8 Z9 Z10 Z11;generalize w1.drew=wd at*;have HM3:=zH (HM.out.1.below (HWD.out.alloc (o:=.cells #[zi (ev.t:Int),zi (ev.n:Int)] 146) HWD.out.size));have hown3:=zH (Ow.own_below HBR.out (HWD.out.alloc (o:=.cells #[zi (ev.t:Int),zi (ev.n:Int)] 146) HWD.out.size));have hsz3:=zH (show w.heap.size≤(wd.alloc (.cells #[zi (ev.t:Int),zi (ev.n:Int)] 146)).heap.size by have h8:=HX.out.1.bel.size;have h9:=H1.out.1.size;have h10:=HWD.out.size;simp;omega);go_wp2_with (refine Ow.wpList_append_to _ rfl (.tmp 188) (.tmp 195) 144 rfl w.heap.size 146 ib _ 2 16 Tryz.underlying144 hib hb0 hb1 hb2 rfl (by decide) (.slice ba bn bc) bn (pairCs O.bonds) rfl hown3.out ⟨wd.heap.size,0,none⟩ 1 1 (by omega) [zi (ev.t:Int),zi (ev.n:Int)] rfl rfl (fun j u hu=>Ow.new_row wd [zi (ev.t:Int),zi (ev.n:Int)] _ wd.heap.size (by simp) j u hu) (by intro u hu;simp at hu;rcases hu with rfl|rfl<;>rfl) (by have:=HBL.out;unfold maxLen;omega) (by have:=HBL.out;omega) hsz3.out ?_;intro v' w4 q1 q2 q3;obtain⟨av,cv',rfl,_⟩:=Ow.own_form q1;have HY:=zH (zA q1 q2);clear q1 q2 q3)
          go_roundw
          case rel=>
           obtain⟨hL,hek,hlt,hn,hnn,hev,hrun,hpr,hpn,hpe,hdn,hdl⟩:=HX.out;obtain⟨hMx,hr,hdk,ht,hd,hkl⟩:=HM.out;obtain⟨hn2,hO'⟩:=HI.out;obtain⟨q1,q2⟩:=HY.out;subst hO';have hbn:=HBL.out;rw[hbn.1] at q1;rw[ht,hn2] at q1;refine⟨k+1,⟨O.deals,O.bonds++[(kk+1,j+1)],O.last⟩,ds,rfl,rfl,⟨by omega,hrun,?_,?_,?_⟩⟩
           · have h:=HM3.out.bond (z:=O.last) (a:=kk+1) (b:=j+1) (vb':=.slice av (O.bonds.length+1) cv') q1 q2
             rw[←hbn.1] at h;exact h
           · have:=hL.few
             simp;omega
           · have z:=(hL.bel.trans (H1.out.1.mono hL.bel.size))
             have z9:=(z.trans (HWD.out.mono z.size))
             exact (z9.alloc (o:=.cells #[zi (ev.t:Int),zi (ev.n:Int)] 146) z9.size).grown q2 hsz3.out (fun g hg=>(hown3.out.lt g hg).1)
          case measure=>have:=HX.out.2.2.1;simp[intOf];omega
        · have p7:((d.end_:Int)=0)=False:=by simp;omega
          have p7b:((d.end_:Int) !=0)=true:=by simp;omega
          have p7n:(d.end_=0)=False:=by simp;omega
          have p8:((d.end_:Int)≤(c.end_:Int))=False:=by simp;omega
          have p8b:decide ((d.end_:Int)≤(c.end_:Int))=false:=by simp;omega
          have p8n:(d.end_≤c.end_)=False:=by simp;omega
          clear h2 hn2 hc hj2 hjk hcs hce hbl hO' hck hjl hr hbn hbr hd0;go_upto_region 11 with (go_at_call 48;refine (HAT.out _).mono ?_;rintro e w2 ⟨rfl,rfl⟩)
          go_upto_region 31 with (go_at_call 48;refine (HAT2.out _).mono ?_;rintro e w2 ⟨rfl,rfl⟩)
          refine wp_region_held_drew (S:=fun w'=>w'.cell? ⟨dg,j*6+2,none⟩=some (zi (c.state:Int))∧w'.cell? ⟨dg,j*6+4,none⟩=some (zu (c.end_:Int))∧w'.cell? ⟨dg,kk*6+4,none⟩=some (zu (d.end_:Int))) (by kernel_rfl) ?_ (fun hHeld=>?_)
          · (try dsimp only);exact⟨C2,C4,D4⟩
          refine zqt (i:=0) rfl hHeld ?_
          (try simp only[zqa,zqb,zqc,Act.put,zqd,zqe,zqf])
          refine zqt (i:=1) rfl hHeld ?_
          (try simp only[zqa,zqb,zqc,Act.put,zqd,zqe,zqf])
          refine zqt (i:=2) rfl hHeld ?_
          (try simp only[zqa,zqb,zqc,Act.put,zqd,zqe,zqf])
          refine zqt (i:=3) rfl hHeld ?_
          (try simp only[zqa,zqb,zqc,Act.put,zqd,zqe,zqf])
          refine zqt (i:=4) rfl hHeld ?_
          (try simp only[zqa,zqb,zqc,Act.put,zqd,zqe,zqf])
          refine zqt (i:=5) rfl hHeld ?_
          (try simp only[zqa,zqb,zqc,Act.put,zqd,zqe,zqf])
          refine zqt (i:=6) rfl hHeld ?_
          (try simp only[zqa,zqb,zqc,Act.put,zqd,zqe,zqf])
          refine zqt (i:=7) rfl hHeld ?_
          (try simp only[zqa,zqb,zqc,Act.put,zqd,zqe,zqf])
          refine zqt (i:=8) rfl hHeld ?_
          (try simp only[zqa,zqb,zqc,Act.put,zqd,zqe,zqf])
          refine zqt (i:=9) rfl hHeld ?_
          (try simp only[zqa,zqb,zqc,Act.put,zqd,zqe,zqf])
          refine zqt (i:=10) rfl hHeld ?_
          (try simp only[zqa,zqb,zqc,Act.put,zqd,zqe,zqf])
          refine zqt (i:=11) rfl hHeld ?_
          (try simp only[zqa,zqb,zqc,Act.put,zqd,zqe,zqf])
          refine zqt (i:=12) rfl hHeld ?_
          (try simp only[zqa,zqb,zqc,Act.put,zqd,zqe,zqf])
          refine zqt (i:=13) rfl hHeld ?_
          (try simp only[zqa,zqb,zqc,Act.put,zqd,zqe,zqf])
          refine zqt (i:=14) rfl hHeld ?_
          (try simp only[zqa,zqb,zqc,Act.put,zqd,zqe,zqf])
          refine zqt (i:=15) rfl hHeld ?_
          (try simp only[zqa,zqb,zqc,Act.put,zqd,zqe,zqf])
          refine zqt (i:=16) rfl hHeld ?_
          (try simp only[zqa,zqb,zqc,Act.put,zqd,zqe,zqf])
          refine zqt (i:=17) rfl hHeld ?_
          (try simp only[zqa,zqb,zqc,Act.put,zqd,zqe,zqf])
          refine zqt (i:=18) rfl hHeld ?_
          (try simp only[zqa,zqb,zqc,Act.put,zqd,zqe,zqf])
          refine zqt (i:=19) rfl hHeld ?_
          (try simp only[zqa,zqb,zqc,Act.put,zqd,zqe,zqf])
          refine zqt (i:=20) rfl hHeld ?_
          (try simp only[zqa,zqb,zqc,Act.put,zqd,zqe,zqf])
          refine zqt (i:=21) rfl hHeld ?_
          (try simp only[zqa,zqb,zqc,Act.put,zqd,zqe,zqf])
          refine zqt (i:=22) rfl hHeld ?_
          (try simp only[zqa,zqb,zqc,Act.put,zqd,zqe,zqf])
          refine zqt (i:=23) rfl hHeld ?_
          (try simp only[zqa,zqb,zqc,Act.put,zqd,zqe,zqf])
          refine zqt (i:=24) rfl hHeld ?_
          (try simp only[zqa,zqb,zqc,Act.put,zqd,zqe,zqf])
          refine zqt (i:=25) rfl hHeld ?_
          (try simp only[zqa,zqb,zqc,Act.put,zqd,zqe,zqf])
          refine zqt (i:=26) rfl hHeld ?_
          (try simp only[zqa,zqb,zqc,Act.put,zqd,zqe,zqf])
          refine zqt (i:=27) rfl hHeld ?_
          (try simp only[zqa,zqb,zqc,Act.put,zqd,zqe,zqf])
          refine zqt (i:=28) rfl hHeld ?_
          (try simp only[zqa,zqb,zqc,Act.put,zqd,zqe,zqf])
          refine zqt (i:=29) rfl hHeld ?_
          (try simp only[zqa,zqb,zqc,Act.put,zqd,zqe,zqf])
          refine zqt (i:=30) rfl hHeld ?_
          (try simp only[zqa,zqb,zqc,Act.put,zqd,zqe,zqf])
          refine zqt (i:=31) rfl hHeld ?_
          (try simp only[zqa,zqb,zqc,Act.put,zqd,zqe,zqf])
          refine zqt (i:=32) rfl hHeld ?_
          (try simp only[zqa,zqb,zqc,Act.put,zqd,zqe,zqf])
          refine zqt (i:=33) rfl hHeld ?_
          (try simp only[zqa,zqb,zqc,Act.put,zqd,zqe,zqf])
          refine zqt (i:=34) rfl hHeld ?_
          (try simp only[zqa,zqb,zqc,Act.put,zqd,zqe,zqf])
          refine zqt (i:=35) rfl hHeld ?_
          (try simp only[zqa,zqb,zqc,Act.put,zqd,zqe,zqf])
          refine zqt (i:=36) rfl hHeld ?_
          (try simp only[zqa,zqb,zqc,Act.put,zqd,zqe,zqf])
          refine zqt (i:=37) rfl hHeld ?_
          (try simp only[zqa,zqb,zqc,Act.put,zqd,zqe,zqf])
          refine zqt (i:=38) rfl hHeld ?_
          (try simp only[zqa,zqb,zqc,Act.put,zqd,zqe,zqf])
          refine zqt (i:=39) rfl hHeld ?_
          (try simp only[zqa,zqb,zqc,Act.put,zqd,zqe,zqf])
          refine zqt (i:=40) rfl hHeld ?_
          (try simp only[zqa,zqb,zqc,Act.put,zqd,zqe,zqf])
          refine zqt (i:=41) rfl hHeld ?_
          (try simp only[zqa,zqb,zqc,Act.put,zqd,zqe,zqf])
          refine zqt (i:=42) rfl hHeld ?_
          (try simp only[zqa,zqb,zqc,Act.put,zqd,zqe,zqf])
          refine zqt (i:=43) rfl hHeld ?_
          (try simp only[zqa,zqb,zqc,Act.put,zqd,zqe,zqf])
          refine zqt (i:=44) rfl hHeld ?_
          (try simp only[zqa,zqb,zqc,Act.put,zqd,zqe,zqf])
          refine zqt (i:=45) rfl hHeld ?_
          (try simp only[zqa,zqb,zqc,Act.put,zqd,zqe,zqf])
          refine zqt (i:=46) rfl hHeld ?_
          (try simp only[zqa,zqb,zqc,Act.put,zqd,zqe,zqf])
          refine zqt (i:=47) rfl hHeld ?_
          (try simp only[zqa,zqb,zqc,Act.put,zqd,zqe,zqf])
          refine zqt (i:=48) rfl hHeld ?_
          (try simp only[zqa,zqb,zqc,Act.put,zqd,zqe,zqf])
          refine wpAnyH_done (by kernel_rfl) ?_ _;have Y1:w1.drew.cell? ⟨wr.heap.size,1,none⟩=some (zi (ev.t:Int)):=Z1;have Y2:w1.drew.cell? ⟨wr.heap.size,2,none⟩=some (zu (ev.n:Int)):=Z2;have HWD:=zH ((Below.refl w1.heap.size w1).drew);clear hHeld D2 D4 D5 F2 F4 C2 C4 Z0 Z1 Z2 Z3 Z4 Z5 Z6 Z7 Z8 Z9 Z10 Z11;generalize w1.drew=wd at*;have HM3:=zH (HM.out.1.below (HWD.out.alloc (o:=.cells #[zi (ev.t:Int),zi (ev.n:Int)] 146) HWD.out.size));have hown3:=zH (Ow.own_below HBR.out (HWD.out.alloc (o:=.cells #[zi (ev.t:Int),zi (ev.n:Int)] 146) HWD.out.size));have hsz3:=zH (show w.heap.size≤(wd.alloc (.cells #[zi (ev.t:Int),zi (ev.n:Int)] 146)).heap.size by have h8:=HX.out.1.bel.size;have h9:=H1.out.1.size;have h10:=HWD.out.size;simp;omega);go_wp2_with (refine Ow.wpList_append_to _ rfl (.tmp 188) (.tmp 195) 144 rfl w.heap.size 146 ib _ 2 16 Tryz.underlying144 hib hb0 hb1 hb2 rfl (by decide) (.slice ba bn bc) bn (pairCs O.bonds) rfl hown3.out ⟨wd.heap.size,0,none⟩ 1 1 (by omega) [zi (ev.t:Int),zi (ev.n:Int)] rfl rfl (fun j u hu=>Ow.new_row wd [zi (ev.t:Int),zi (ev.n:Int)] _ wd.heap.size (by simp) j u hu) (by intro u hu;simp at hu;rcases hu with rfl|rfl<;>rfl) (by have:=HBL.out;unfold maxLen;omega) (by have:=HBL.out;omega) hsz3.out ?_;intro v' w4 q1 q2 q3;obtain⟨av,cv',rfl,_⟩:=Ow.own_form q1;have HY:=zH (zA q1 q2);clear q1 q2 q3)
          go_roundw
          case rel=>
           obtain⟨hL,hek,hlt,hn,hnn,hev,hrun,hpr,hpn,hpe,hdn,hdl⟩:=HX.out;obtain⟨hMx,hr,hdk,ht,hd,hkl⟩:=HM.out;obtain⟨hn2,hO'⟩:=HI.out;obtain⟨q1,q2⟩:=HY.out;subst hO';have hbn:=HBL.out;rw[hbn.1] at q1;rw[ht,hn2] at q1;refine⟨k+1,⟨O.deals,O.bonds++[(kk+1,j+1)],O.last⟩,ds,rfl,rfl,⟨by omega,hrun,?_,?_,?_⟩⟩
           · have h:=HM3.out.bond (z:=O.last) (a:=kk+1) (b:=j+1) (vb':=.slice av (O.bonds.length+1) cv') q1 q2
             rw[←hbn.1] at h;exact h
           · have:=hL.few
             simp;omega
           · have z:=(hL.bel.trans (H1.out.1.mono hL.bel.size))
             have z9:=(z.trans (HWD.out.mono z.size))
             exact (z9.alloc (o:=.cells #[zi (ev.t:Int),zi (ev.n:Int)] 146) z9.size).grown q2 hsz3.out (fun g hg=>(hown3.out.lt g hg).1)
          case measure=>have:=HX.out.2.2.1;simp[intOf];omega
      · as_aux_lemma=>
         obtain⟨h4,h5,h6⟩:=h3;replace Z0:w1.cell? ⟨wr.heap.size,0,none⟩=some (Value.int .i64 5):=by rw[h2] at Z0;exact Z0
         have e1:((d.end_:Int)=0)=False:=by simp;omega
         have e2:decide ((d.end_:Int)=0)=false:=by simp;omega
         have e3:((d.end_:Int) !=0)=true:=by simp;omega
         have HI:=zH (zA h4 (zA h5 h6));clear h2 h4 h5 h6;obtain⟨ba,bc,rfl,_⟩:=Ow.own_form HM.out.1.bd;obtain⟨bn,hbn⟩:∃ bn,bn=O.bonds.length:=⟨_,rfl⟩
         rw[←hbn];go_upto_region 38 with (go_at_call 48;refine (HAT.out _).mono ?_;rintro e w2 ⟨rfl,rfl⟩)
         obtain⟨wo,hwo⟩:∃ wo,wo=wr:=⟨_,rfl⟩
         subst hwo
         go_loopw [12,14] (fun ok b wr=>Below w1.heap.size w1 wr∧ok=.bool true∧∃ q:Nat,b=zi (q:Int)∧q≤bn) (fun _ b _=>bn - (intOf b).toNat)
         case atStart=>exact⟨Below.refl _ _,rfl,0,rfl,Nat.zero_le _⟩
         case round=>
          obtain⟨hbw,rfl,q,rfl,hq⟩:=hrel
          by_cases hql:q<bn
          · obtain⟨xy,hxy⟩:∃ xy,O.bonds[q]? =some xy:=⟨_,List.getElem?_eq_getElem (by omega)⟩
            obtain⟨x,y⟩:=xy;have hbd:=Ow.own_below HM.out.1.bd hbw;have hrd:=Ow.own_below HM.out.2.1 hbw;have g1:=pairCs_get _ _ _ hxy;obtain⟨bg,bcc,hv',_⟩:=own_head hbd (by omega);rw[←hbn] at hv';simp only[Value.slice.injEq] at hv';obtain⟨rfl,_,rfl⟩:=hv';have B0:wr.cell? ⟨bg,q*2,none⟩=some (zi (x:Int)):=by rw[hbd.cellAt (q*2) (by omega)];exact g1.1
            have B1:wr.cell? ⟨bg,q*2+1,none⟩=some (zi (y:Int)):=by rw[hbd.cellAt (q*2+1) (by omega)];exact g1.2
            have E1:wr.cell? ⟨wo.heap.size,1,none⟩=some (zi (ev.t:Int)):=(hbw.cell (p:=⟨wo.heap.size,1,none⟩) (by show wo.heap.size<w1.heap.size;rw[H1.out.2.2];omega)).trans Z1;have q0:((q:Int)<(bn:Int))=True:=by simp;omega
            have q1:(q:Int)<(bn:Int):=by omega
            have q2:(0:Int)≤(q:Int):=by omega
            have q3:IntKind.i64.wrap ((q:Int)+1)=(q:Int)+1:=by have:=HX.out.1.few;have:=HX.out.2.2.2.1;have:=HX.out.2.2.1;rw[IntKind.wrap_i64];omega
            have HBW:=zH hbw;have HQ:=zH hql
            by_cases hx:x=ev.t
            · subst hx
              have hall:=List.all_eq_true.1 HI.out.2.1 _ (List.mem_of_getElem? hxy);simp only[HM.out.2.2.2.1,bne_self_eq_false,Bool.false_or] at hall;obtain⟨m,c,rfl,hc,hc3⟩:∃ m c,y=m+1∧O.deals[m]? =some c∧c.state=3:=by
               cases y with
               |zero=>simp at hall
               |succ m=>
                simp only at hall
                cases hm:O.deals[m]? with
                |none=>rw[hm] at hall;simp at hall
                |some c=>rw[hm] at hall;exact⟨m,c,rfl,hm,by simpa using hall⟩
              obtain⟨cvv,hck⟩:=HM.out.1.get hc;have hml:m<dn:=by have:=(List.getElem?_eq_some_iff.mp hc).1;have:=HX.out.2.2.2.2.2.2.2.2.2.2.2;omega
              have C2:wr.cell? ⟨dg,m*6+2,none⟩=some (zi 3):=by rw[hrd.cellAt (m*6+2) (by omega),dqsCs_get _ _ _ (by omega),hck,←show (((3:Nat):Int))=3 from rfl,←hc3];rfl
              have x1:IntKind.i64.wrap (((m+1:Nat):Int) - 1)=(m:Int):=by have:=HX.out.1.few;have:=HX.out.2.2.2.1;have:=HX.out.2.2.1;have:=HX.out.2.2.2.2.2.2.2.2.2.2.2;rw[IntKind.wrap_i64];omega
              have x2:(0:Int)≤(m:Int):=by omega
              have x3:(m:Int)<(dn:Int):=by omega
              have x4:((m:Int)<0)=False:=by simp
              generalize hyy:m+1=y at*;clear g1 hbd hrd hxy hql hbw hall hc hc3 hck hml hyy;go_wp2;refine wp_region_held_drew (S:=fun w'=>w'.cell? ⟨bg,q*2,none⟩=some (zi (ev.t:Int))∧w'.cell? ⟨bg,q*2+1,none⟩=some (zi (y:Int))∧w'.cell? ⟨wo.heap.size,1,none⟩=some (zi (ev.t:Int))∧w'.cell? ⟨dg,m*6+2,none⟩=some (zi 3)) (by kernel_rfl) ?_ (fun hHeld=>?_)
              · (try dsimp only);exact⟨B0,B1,E1,C2⟩
              refine zqt (i:=0) rfl hHeld ?_
              (try simp only[zqa,zqb,zqc,Act.put,zqd,zqe,zqf])
              refine zqt (i:=1) rfl hHeld ?_
              (try simp only[zqa,zqb,zqc,Act.put,zqd,zqe,zqf])
              refine zqt (i:=2) rfl hHeld ?_
              (try simp only[zqa,zqb,zqc,Act.put,zqd,zqe,zqf])
              refine zqt (i:=3) rfl hHeld ?_
              (try simp only[zqa,zqb,zqc,Act.put,zqd,zqe,zqf])
              refine zqt (i:=4) rfl hHeld ?_
              (try simp only[zqa,zqb,zqc,Act.put,zqd,zqe,zqf])
              refine zqt (i:=5) rfl hHeld ?_
              (try simp only[zqa,zqb,zqc,Act.put,zqd,zqe,zqf])
              refine zqt (i:=6) rfl hHeld ?_
              (try simp only[zqa,zqb,zqc,Act.put,zqd,zqe,zqf])
              refine zqt (i:=7) rfl hHeld ?_
              (try simp only[zqa,zqb,zqc,Act.put,zqd,zqe,zqf])
              refine zqt (i:=8) rfl hHeld ?_
              (try simp only[zqa,zqb,zqc,Act.put,zqd,zqe,zqf])
              refine zqt (i:=9) rfl hHeld ?_
              (try simp only[zqa,zqb,zqc,Act.put,zqd,zqe,zqf])
              refine zqt (i:=10) rfl hHeld ?_
              (try simp only[zqa,zqb,zqc,Act.put,zqd,zqe,zqf])
              refine zqt (i:=11) rfl hHeld ?_
              (try simp only[zqa,zqb,zqc,Act.put,zqd,zqe,zqf])
              refine zqt (i:=12) rfl hHeld ?_
              (try simp only[zqa,zqb,zqc,Act.put,zqd,zqe,zqf])
              refine zqt (i:=13) rfl hHeld ?_
              (try simp only[zqa,zqb,zqc,Act.put,zqd,zqe,zqf])
              refine zqt (i:=14) rfl hHeld ?_
              (try simp only[zqa,zqb,zqc,Act.put,zqd,zqe,zqf])
              refine zqt (i:=15) rfl hHeld ?_
              (try simp only[zqa,zqb,zqc,Act.put,zqd,zqe,zqf])
              refine zqt (i:=16) rfl hHeld ?_
              (try simp only[zqa,zqb,zqc,Act.put,zqd,zqe,zqf])
              refine zqt (i:=17) rfl hHeld ?_
              (try simp only[zqa,zqb,zqc,Act.put,zqd,zqe,zqf])
              refine zqt (i:=18) rfl hHeld ?_
              (try simp only[zqa,zqb,zqc,Act.put,zqd,zqe,zqf])
              refine zqt (i:=19) rfl hHeld ?_
              (try simp only[zqa,zqb,zqc,Act.put,zqd,zqe,zqf])
              refine zqt (i:=20) rfl hHeld ?_
              (try simp only[zqa,zqb,zqc,Act.put,zqd,zqe,zqf])
              refine wpAnyH_done (by kernel_rfl) ?_ _;go_wp2
              go_roundw
              case rel=>exact⟨(HBW.out).drew,rfl,q+1,rfl,HQ.out⟩
              case measure=>have:=HQ.out;simp[intOf];omega
            · have x1:((x:Int)=(ev.t:Int))=False:=by simp;omega
              have x2:decide ((x:Int)=(ev.t:Int))=false:=by simp;omega
              have x3:(x=ev.t)=False:=by simp;omega
              have x4:((x:Int)==(ev.t:Int))=false:=by simp;omega
              have x5:(x==ev.t)=false:=by simp;omega
              have x6:decide (x=ev.t)=false:=by simp;omega
              clear g1 hbd hrd hxy hx hql hbw;go_wp2;refine wp_region_held_drew (S:=fun w'=>w'.cell? ⟨bg,q*2,none⟩=some (zi (x:Int))∧w'.cell? ⟨wo.heap.size,1,none⟩=some (zi (ev.t:Int))) (by kernel_rfl) ?_ (fun hHeld=>?_)
              · (try dsimp only);exact⟨B0,E1⟩
              refine zqt (i:=0) rfl hHeld ?_
              (try simp only[zqa,zqb,zqc,Act.put,zqd,zqe,zqf])
              refine zqt (i:=1) rfl hHeld ?_
              (try simp only[zqa,zqb,zqc,Act.put,zqd,zqe,zqf])
              refine zqt (i:=2) rfl hHeld ?_
              (try simp only[zqa,zqb,zqc,Act.put,zqd,zqe,zqf])
              refine zqt (i:=3) rfl hHeld ?_
              (try simp only[zqa,zqb,zqc,Act.put,zqd,zqe,zqf])
              refine zqt (i:=4) rfl hHeld ?_
              (try simp only[zqa,zqb,zqc,Act.put,zqd,zqe,zqf])
              refine zqt (i:=5) rfl hHeld ?_
              (try simp only[zqa,zqb,zqc,Act.put,zqd,zqe,zqf])
              refine zqt (i:=6) rfl hHeld ?_
              (try simp only[zqa,zqb,zqc,Act.put,zqd,zqe,zqf])
              refine zqt (i:=7) rfl hHeld ?_
              (try simp only[zqa,zqb,zqc,Act.put,zqd,zqe,zqf])
              (try simp only[x1,x2,x3,x4,x5,x6,decide_false])
              refine zqt (i:=8) rfl hHeld ?_
              (try simp only[zqa,zqb,zqc,Act.put,zqd,zqe,zqf])
              refine wpAnyH_take (i:=9) (v:=undef) rfl (by kernel_rfl) (by kernel_rfl) (by kernel_rfl) (fun _ _ _ h=>h) (Or.inr ⟨by rfl,rfl⟩) hHeld ?_
              (try simp only[zqa,zqb,zqc,Act.put,zqd,zqe,zqf])
              refine wpAnyH_take (i:=10) (v:=undef) rfl (by kernel_rfl) (by kernel_rfl) (by kernel_rfl) (fun _ _ _ h=>h) (Or.inr ⟨by rfl,rfl⟩) hHeld ?_
              (try simp only[zqa,zqb,zqc,Act.put,zqd,zqe,zqf])
              refine wpAnyH_take (i:=11) (v:=undef) rfl (by kernel_rfl) (by kernel_rfl) (by kernel_rfl) (fun _ _ _ h=>h) (Or.inr ⟨by rfl,rfl⟩) hHeld ?_
              (try simp only[zqa,zqb,zqc,Act.put,zqd,zqe,zqf])
              refine wpAnyH_take (i:=12) (v:=undef) rfl (by kernel_rfl) (by kernel_rfl) (by kernel_rfl) (fun _ _ _ h=>h) (Or.inr ⟨by rfl,rfl⟩) hHeld ?_
              (try simp only[zqa,zqb,zqc,Act.put,zqd,zqe,zqf])
              refine wpAnyH_take (i:=13) (v:=undef) rfl (by kernel_rfl) (by kernel_rfl) (by kernel_rfl) (fun _ _ _ h=>h) (Or.inr ⟨by rfl,rfl⟩) hHeld ?_
              (try simp only[zqa,zqb,zqc,Act.put,zqd,zqe,zqf])
              refine wpAnyH_take (i:=14) (v:=undef) rfl (by kernel_rfl) (by kernel_rfl) (by kernel_rfl) (fun _ _ _ h=>h) (Or.inr ⟨by rfl,rfl⟩) hHeld ?_
              (try simp only[zqa,zqb,zqc,Act.put,zqd,zqe,zqf])
              refine wpAnyH_take (i:=15) (v:=undef) rfl (by kernel_rfl) (by kernel_rfl) (by kernel_rfl) (fun _ _ _ h=>h) (Or.inr ⟨by rfl,rfl⟩) hHeld ?_
              (try simp only[zqa,zqb,zqc,Act.put,zqd,zqe,zqf])
              refine wpAnyH_take (i:=16) (v:=undef) rfl (by kernel_rfl) (by kernel_rfl) (by kernel_rfl) (fun _ _ _ h=>h) (Or.inr ⟨by rfl,rfl⟩) hHeld ?_
              (try simp only[zqa,zqb,zqc,Act.put,zqd,zqe,zqf])
              refine wpAnyH_take (i:=17) (v:=undef) rfl (by kernel_rfl) (by kernel_rfl) (by kernel_rfl) (fun _ _ _ h=>h) (Or.inr ⟨by rfl,rfl⟩) hHeld ?_
              (try simp only[zqa,zqb,zqc,Act.put,zqd,zqe,zqf])
              refine wpAnyH_take (i:=18) (v:=undef) rfl (by kernel_rfl) (by kernel_rfl) (by kernel_rfl) (fun _ _ _ h=>h) (Or.inr ⟨by rfl,rfl⟩) hHeld ?_
              (try simp only[zqa,zqb,zqc,Act.put,zqd,zqe,zqf])
              refine wpAnyH_take (i:=19) (v:=undef) rfl (by kernel_rfl) (by kernel_rfl) (by kernel_rfl) (fun _ _ _ h=>h) (Or.inr ⟨by rfl,rfl⟩) hHeld ?_
              (try simp only[zqa,zqb,zqc,Act.put,zqd,zqe,zqf])
              refine zqt (i:=20) rfl hHeld ?_
              (try simp only[zqa,zqb,zqc,Act.put,zqd,zqe,zqf])
              refine wpAnyH_done (by kernel_rfl) ?_ _;go_wp2
              go_roundw
              case rel=>exact⟨(HBW.out).drew,rfl,q+1,rfl,HQ.out⟩
              case measure=>have:=HQ.out;simp[intOf];omega
          · have q0:((q:Int)<(bn:Int))=False:=by simp;omega
            have G2:wr.cell? ⟨dg,kk*6+2,none⟩=some (zi 1):=(hbw.cell (p:=⟨dg,kk*6+2,none⟩) (HM.out.2.1.lt dg rfl).2).trans D2;have GF:wr.frozen? ⟨dg,kk*6+2,none⟩=false:=own_free (Ow.own_below HM.out.2.1 hbw);have HBW:=zH hbw;clear hbw D2 F2;go_wp2;obtain⟨hL,hek,hlt,hn,hnn,hev,hrun,hpr,hpn,hpe,hdn,hdl⟩:=HX.out;obtain⟨hMx,hr,hdk,ht,hd,hkl⟩:=HM.out;obtain⟨_,_,hO'⟩:=HI.out;subst hO';refine⟨⟨k+1,⟨O.deals.set kk {d with state:=3},O.bonds,O.last⟩,ds.set kk ({d with state:=3},dv),rfl,rfl,⟨by omega,hrun,?_,?_,?_⟩⟩,by simp[intOf];omega⟩
            · exact (hMx.below HBW.out).put (z:=O.last) (d':={d with state:=3}) (j:=2) (u:=zi 3) hdn hdk (by omega) rfl rfl
            · have:=hL.few
              simp;omega
            · have z1:=hL.bel.trans (H1.out.1.mono hL.bel.size)
              have z:=z1.trans (HBW.out.mono z1.size);have q:=But.setCell wr ⟨dg,kk*6+2,none⟩ (zi 3);exact⟨q.os.trans z.os,q.tape.trans z.tape,q.output.trans z.output,by rw[q.size];exact z.size,fun b hb=>(q.block b (by have h9:=(hr.lt dg rfl).1;show b≠dg;omega)).trans (z.block b hb)⟩
      · as_aux_lemma=>
         replace Z0:w1.cell? ⟨wr.heap.size,0,none⟩=some (Value.int .i64 6):=by rw[h2] at Z0;exact Z0
         have HI:=zH h3;clear h2 h3;go_wp2_with (go_at_call 48;refine (HAT.out _).mono ?_;rintro e w2 ⟨rfl,rfl⟩)
         go_roundw
         case rel=>
          obtain⟨hL,hek,hlt,hn,hnn,hev,hrun,hpr,hpn,hpe,hdn,hdl⟩:=HX.out;obtain⟨hMx,hr,hdk,ht,hd,hkl⟩:=HM.out;have hO':=HI.out;subst hO';refine⟨k+1,⟨O.deals.set kk {d with state:=4},O.bonds,O.last⟩,ds.set kk ({d with state:=4},dv),rfl,rfl,⟨by omega,hrun,?_,?_,?_⟩⟩
          · exact hMx.put (z:=O.last) (d':={d with state:=4}) (j:=2) (u:=zi 4) hdn hdk (by omega) rfl rfl
          · have:=hL.few
            simp;omega
          · have z:=hL.bel.trans (H1.out.1.mono hL.bel.size)
            have q:=But.setCell w1 ⟨dg,kk*6+2,none⟩ (zi 4);exact⟨q.os.trans z.os,q.tape.trans z.tape,q.output.trans z.output,by rw[q.size];exact z.size,fun b hb=>(q.block b (by have h9:=(hr.lt dg rfl).1;show b≠dg;omega)).trans (z.block b hb)⟩
         case measure=>have:=HX.out.2.2.1;simp[intOf];omega
  · have hkn:k=n:=by have:=hL.low;omega
    have hr:=hL.run;rw[List.drop_eq_nil_of_le (by omega)] at hr;have hOO:O=O1:=Option.some.inj hr;subst hOO;subst hkn;have c0:((k:Int)<(k:Int))=False:=by simp
    have HX:=zH hL;clear hL hr hv he hn hp hO hnn hlt H0 b0 b1;go_wp2
    go_ret3
    exact⟨_,_,ds,rfl,HX.out.mem,HX.out.bel⟩
end Go.Proofs.YtpkenfnmkpmapaaGreat.Em
