import Derived.Test.YthicolbbmjfkfaaGreatQh13
import Derived.Test.YthicolbbmjfkfaaGreatQh14
set_option linter.unusedVariables false
set_option linter.unusedSimpArgs false
set_option maxRecDepth 100000
set_option maxHeartbeats 1600000
namespace Go.Proofs.YthicolbbmjfkfaaGreat.Em
open Go.ChangeShapes Go.WideShapes Go.ChangeAt Go.RowKit En
variable {A:au} {D:St} {w:World}
theorem iQ (a b:List wG):ku (a++b)=ku a++ku b:=by simp[ku]
theorem Lf:(Tryz.prog.info? 234).map (fun i=>(i.zero,i.size,i.bytes))=some (some (.agg #[I 0,zu 0,zu 0]),3,24):=by kernel_rfl
theorem qD {ops:Array Oper} {rest:List Oper} {o:Oper} {a:Act} {Q:Exit->Act->World->Prop} (w:World) (hgd:o.guard=none) (s x:Operand)
 (ho:o.op=.call {callee:=.builtin .append,args:=#[s,x],argTypes:=#[232,232]})
 (w0:World) (Z:Below w0.heap.size w0 w) (av:Option Addr) (m cap:Nat) (xs:List Value) (hs:a.eval s=.slice av m cap) (aS:w.ownsRow w0.heap.size 234 3 (.slice av m cap) m xs) (hm:m<4000000)
 (t0 t1 t2:Int) (hx:a.eval x=.slice (some (J w.heap.size 0)) 1 1)
 (h:∀ BN cap' G,G.ownsRow w0.heap.size 234 3 (.slice BN (m+1) cap') (m+1) (xs++[I t0,zu t1,zu t2])->Below w0.heap.size w0 G->wpList Tryz.prog ops Q rest (a.put o.dst (.slice BN (m+1) cap')) G):
 wpList Tryz.prog ops Q (o::rest) a (w.alloc (.cells #[I t0,zu t1,zu t2] 234)):=by
 obtain⟨ii,hii,hz0,hz1,hz2⟩:=info_parts Lf;have hw:=Z.size;have hown':(w.alloc (.cells #[I t0,zu t1,zu t2] 234)).ownsRow w0.heap.size 234 3 (.slice av m cap) m xs:=mi aS fun g hg=>Below.heap_alloc _ _ _ (aS.lt g hg).2
 refine Ow.dH _ hgd s x 232 ho w0.heap.size 234 ii _ 3 24 Tryz.underlying232 hii hz0 hz1 hz2 rfl (by decide) (.slice av m cap) m xs hs hown' (J w.heap.size 0) 1 1 (by omega) [I t0,zu t1,zu t2] hx rfl (fun j u hu=>Ow.iF w [I t0,zu t1,zu t2] _ _ rfl j u hu) (by intro u hu;simp at hu;rcases hu with rfl|rfl|rfl<;>rfl) (by unfold maxLen;omega) (by omega) (by simp;omega) ?_;intro v' G q1 q2 q3;obtain⟨BN,cap',rfl,_⟩:=Ow.bD q1;exact h BN cap' G q1 ((Z.alloc hw _).grown q2 (by simp;omega) (fun g hg=>(aS.lt g hg).1))
theorem r9 {L:cZ} {w0 w:World} {av:Option Addr} {m cap:Nat} {xs:List Value} (h:w.ownsRow w0.heap.size 234 3 (.slice av m cap) m xs) (hL:∀ b,w0.heap.size<=b->L b=none):dQ L w 3 (.slice av m cap) xs:=by
 obtain⟨a,c,e,h1,h2,h3⟩:=Ow.bD h;obtain⟨rfl,rfl⟩:av=a∧cap=c:=by simpa using e
 refine⟨av,m,cap,rfl,h.1,h1,by unfold maxLen;omega,?_⟩
 rcases h.2 with ⟨h0,hn⟩|⟨g,cap',cur,hv,Z,hg,hnc,hcm,hcs,htake⟩
 . exact .inl (by first|exact h0|omega)
 . obtain⟨rfl,rfl⟩:av=za g 0∧cap=cap':=by simpa using hv
   refine .inr ⟨g,0,rfl,hL g (h.lt g rfl).1,(h.lt g rfl).2,fun j hj=>?_⟩;rw[Nat.zero_add];exact h.cellAt j hj
theorem AO (hR:aD A D w) (s:Nat) (l:List wG) (lv:Value) (hl:dQ A.L w 3 lv (ku l)) (r:ic) (re rv ro rr:Int) (vp:Value) (hcs:zK r vp=[I re,I rv,vp,I ro,I rr]) (hp:(vp=A.aR s∧r.aB=(D.c s).r.aB)∨(vp=.slice none 0 0∧r.aB=[])):
 zk 128 #[R A.Y 0,R (A.bt s) 0,R (A.bc s) 0,lv,.agg #[I re,I rv,vp,I ro,I rr]] w (aZ A w s (D,.turns l r)):=by
 have h:=wT hR s l lv hl r vp hp;simp only[zK,List.cons.injEq,Value.int.injEq,true_and,and_true] at hcs;obtain⟨e1,e2,e3,e4⟩:=hcs;rw[e1,e2,e3,e4] at h;exact h
def Cy (D:St) (t:bB):Prop:=∀ E∈t.keys,∃ x,t.cell E=some x∧(x.own=0∨VL D x.own)∧(x.old=0∨VL D x.old)
def kC (t:bB) (E:Nat):List wG:=
 (if ((t.cell E).getD default).own≠0 then ⟨af ((t.cell E).getD default).own 0,0,t.ax⟩::(if ((t.cell E).getD default).there then [] else [⟨af ((t.cell E).getD default).own 1,0,t.ax⟩]) else [])
 ++(if ((t.cell E).getD default).old≠0 then [⟨af ((t.cell E).getD default).old 1,0,t.ax⟩] else [])
theorem uC (D:St) (t:bB):dY D t=t.keys.flatMap (kC t):=rfl
theorem wY (f:Nat->List wG) (l:List Nat) (k:Nat) (h:k<l.length):(l.take (k+1)).flatMap f=(l.take k).flatMap f++f (l.getD k 0):=by
 rw[List.take_succ_eq_append_getElem h,List.flatMap_append];simp[List.getD,h]
theorem yF (t:bB) (E:Nat):(kC t E).length<=3:=by
 unfold kC
 repeat' split
 all_goals simp
theorem si (f:Nat->List wG) (hf:∀ k,(f k).length<=3) (l:List Nat):(l.flatMap f).length<=3*l.length:=by
 induction l with
 |nil=>simp
 |cons x l ih=>simp only[List.flatMap_cons,jF,List.length_cons];have:=hf x;omega
theorem rq (D:St) (x:Nat):(D.bT x).ag=D.ag:=by unfold St.bT St.bP;split<;>rfl
theorem mZ (D:St) (x:Nat):(D.bT x).calls=D.calls:=by unfold St.bT St.bP;split<;>rfl
theorem J2 (hR:aD A D w) (s:Nat) (t:bB) (ht:D.ag.getD s none=some t) (hen:t.ax<281474976710656) (hid:t.id<=2000) (hrl:t.reads.length<1000000) (aQ:D.count<4000000000000000000) (b0 b1 b2:Nat)
 (B0:aK A.L w b0 (R A.Y 0)) (B1:aK A.L w b1 (R (A.bt s) 0)) (B2:aK A.L w b2 (R (A.bc s) 0)):
 zk 121 #[R b0 0,R b1 0,R b2 0] w (jO A w s (D.run s .dD)):=by
 have c0:=B0.cell;have c1:=B1.cell;have t4:w.cell? (J (A.bt s) 4)=zv t.ax:=hR.dZ ht 4 rfl;have t0:w.cell? (J (A.bt s) 0)=zt t.id:=hR.dZ ht 0 rfl;have HC:=U (flip (mE t.ax t.id hen (by omega) w.drew));have hlo:aT (aO t.ax t.id)=t.id:=by unfold aT aO;omega
 have HL:=U (tQ hR.drew (aO t.ax t.id) (by unfold aO;omega) (by omega) aQ);have HG:=zG A.L w;have aN:D.run s .dD=(D.bT (aO t.ax t.id),some (dm t 0)):=by
  have e:(D.bT (aO t.ax t.id)).t s=t:=by unfold St.t;rw[rq,ht];rfl
  simp only[St.run,bQ ht,e]
 rw[aN];have HB:Hid (∀ H,aD A (D.bT (aO t.ax t.id)) H->Grow A.L w A.L H->zk 122 #[R A.Y 0,R (A.bt s) 0,R (A.bc s) 0,I 0] H (aZ A H s (D.bT (aO t.ax t.id),dm t 0))∧zS H b0 0 A.Y 0∧zS H b1 0 (A.bt s) 0∧zS H b2 0 (A.bc s) 0):=
  fun H q g=>⟨wR q s t (by rw[rq];exact ht) 0 (zz _) hrl,(B0.grow g).cell,(B1.grow g).cell,(B2.grow g).cell⟩
 clear hR ht hen hid hrl aQ B0 B1 B2 aN hlo;generalize D.bT (aO t.ax t.id)=aH at*;generalize dm t 0=k at*;go_enter Tryz.func121,Tryz.ntmps121;go_wp2_with fail;refine wp_region_still_tail 10 (by kernel_rfl) (by kernel_rfl) ?_;simp only[jk,jl,jm,jo]
 repeat still_step
 still_call HC.out
 refine wpStill_nil ?_;change wpList _ _ _ _ _ w.drew;generalize w.drew=wd at*;go_wp2_with (first|(go_at_call 44;refine HL.out.mono ?_;rintro e H ⟨rfl,q1,q2⟩;have g1:=HG.out.trans q2;obtain⟨hf,d0,d1,d2⟩:=HB.out H q1 g1;have HQ:=U (zA hf g1);clear q1 q2 g1 hf)|(go_at_call 122;refine HQ.out.1.mono ?_;rintro e w2 ⟨A2,v,rfl,p1,p2,p3,p4⟩));go_ret;exact⟨A2,v,rfl,p1,HQ.out.2.trans p2,p3,p4⟩
set_option maxHeartbeats 16000000 in
theorem GK (hR:aD A D w) (s:Nat) (t:bB) (ht:D.ag.getD s none=some t) (hm:A.mt s=0) (hen:t.ax<=1099511627776) (hid:t.id<=2000) (hkl:t.keys.length<1000000) (hK:Cy D t) (htl:D.aP.length<1000000) (aQ:D.count<4000000000000000000) (b0 b1 b2:Nat)
 (B0:aK A.L w b0 (R A.Y 0)) (B1:aK A.L w b1 (R (A.bt s) 0)) (B2:aK A.L w b2 (R (A.bc s) 0)):
 zk 184 #[R b0 0,R b1 0,R b2 0] w (jO A w s (D.run s .bO)):=by
 have c0:=B0.cell;have c1:=B1.cell;have e2:=hR.z2;have t4:w.cell? (J (A.bt s) 4)=zv t.ax:=hR.dZ ht 4 rfl;have t0:w.cell? (J (A.bt s) 0)=zt t.id:=hR.dZ ht 0 rfl;have HP:=U (fB hR.drew t.id (by omega));have HA:=U (jM 3 (t.ax:Int) 3 t.ax rfl rfl (by omega) (by omega) w.drew);have HL:=U (fC hR.drew (D.place t.id) (pack 3 t.ax) (by rw[hR.nw];unfold St.place;omega) aQ);have HG:=zG A.L w;obtain⟨az,vZ⟩:∃ az,az=(D.put (D.place t.id) (pack 3 t.ax)).bW s {kind:=5,t:=t.id}:=⟨_,rfl⟩
 have aN:D.run s .bO=(az,some (.turns (t.keys.flatMap (kC t)) {over:=3})):=by
  rw[vZ,<-uC (D.put (D.place t.id) (pack 3 t.ax)) t];simp only[St.run,bQ ht];rfl
 rw[aN];obtain⟨t2,ht2,hk2,hc2,GL⟩:∃ t2,az.ag.getD s none=some t2∧t2.keys=t.keys∧t2.cells=t.cells∧t2.ax=t.ax:=by
  have ht1:(D.put (D.place t.id) (pack 3 t.ax)).ag.getD s none=some t:=ht;rw[vZ];unfold St.bW;rw[bQ ht1]
  by_cases ho:t.over=true
  . rw[aV ho];exact⟨t,ht1,rfl,rfl,rfl⟩
  . rw[aX ho]
    refine⟨{t with over:=true},?_,rfl,rfl,rfl⟩;show ((D.put (D.place t.id) (pack 3 t.ax)).bq s {t with over:=true}).ag.getD s none=_;rw[cO (cz ht1),aV rfl]
 have hsl2:az.aC=D.aC:=by rw[vZ];unfold St.bW;split<;>rfl
 have HB1:Hid (∀ H,aD A (D.put (D.place t.id) (pack 3 t.ax)) H->Grow A.L w A.L H->zk 125 #[R A.Y 0,R (A.bt s) 0,.agg #[I 5,I t.id,zu 0,I 0,I 0,I 0,I 0,I 0,I 0,.slice none 0 0,I 0,I 0]] H.drew (Told A H.drew s az)∧zS H b0 0 A.Y 0∧zS H b1 0 (A.bt s) 0∧zT H (A.bt s) 0 t.id):=by
  intro H q g;rw[vZ];exact⟨Aq q.drew s t ht hm _ 5 t.id 0 rfl rfl htl,(B0.grow g).cell,(B1.grow g).cell,q.dZ ht 0 rfl⟩
 have HB2 : Hid (∀ A2 w2, aD A2 az w2 -> Grow A.L w A2.L w2 -> bL A A2 s -> A2.bx = A.bx -> ∀ w3, Below w2.heap.size w2 w3 -> zS w3 b0 0 A.Y 0 ∧ zS w3 b1 0 (A.bt s) 0 ∧ zS w3 b2 0 (A.bc s) 0 ∧ zV w3 (A.bt s) 4 (t.ax : Int) ∧ w3.cell? (J (A.bt s) 7) = some (.map (some (A.bm s))) ∧ w3.cell? (J (A.bt s) 6) = some (A2.dR s) ∧
     (∃ av cap,A2.dR s=.slice av t.keys.length cap)∧(∀ k,k<t.keys.length->∀ g cap,A2.dR s=.slice (some (J g 0)) t.keys.length cap->w3.cell? (J g k)=zt (t.keys.getD k 0:Int))∧(∀ k,k<t.keys.length->∃ g cap,A2.dR s=.slice (some (J g 0)) t.keys.length cap)∧
     (∀ E x,t.cell E=some x->(Instr.lookup 116 (.map (some (A.bm s))) (I E) false).run Tryz.prog w3=.ok (R (A.bx s E) 0) w3∧zV w3 (A.bx s E) 0 x.own∧zV w3 (A.bx s E) 1 x.old∧zB w3 (A.bx s E) 2 x.there)):=by
  intro A2 w2 q g st hbx w3 Z;have r3:=q.below Z;have gg:=g.trans (Grow.below (L:=A2.L) Z);have a4:=r3.dZ ht2 4 (v:=zu t2.ax) rfl;have a7:=r3.dZ ht2 7 (v:=.map (some (A2.bm s))) rfl;have a6:=r3.dZ ht2 6 (v:=A2.dR s) rfl;rw[st.bt] at a4 a7 a6;rw[st.bm] at a7;rw[GL] at a4;have aS:=r3.mem.all (.keys s);rw[mem_keys ht2,hk2] at aS;obtain⟨av,cap,hv,_⟩:=Ow.bD aS.1;have hget:∀ k,k<t.keys.length->(t.keys.map i64)[k]? =some (i64 (t.keys.getD k 0)):=fun k V=>by simp[List.getD,V]
  refine⟨(B0.grow gg).cell,(B1.grow gg).cell,(B2.grow gg).cell,a4,a7,a6,⟨av,cap,hv⟩,fun k V g' cap' hv'=>?_,fun k V=>?_,fun E x hx=>?_⟩
  . obtain⟨g1,ym,hv1,hc1⟩:=jQ aS.1 (hget k V)
    rw[hv'] at hv1;obtain⟨rfl,_⟩:g'=g1∧cap'=ym:=by simpa using hv1
    exact hc1
  . obtain⟨g1,ym,hv1,hc1⟩:=jQ aS.1 (hget k V)
    exact⟨g1,ym,hv1⟩
  . have hx2:t2.cell E=some x:=by unfold bB.cell at hx ⊢;rw[hc2];exact hx
    have hl:=eX r3 ht2 E;have hpx:A2.px s t2 E=R (A2.bx s E) 0:=by unfold au.px;rw[hx2];rfl
    rw[hpx,hbx,st.bm] at hl;obtain⟨x0,x1,x2⟩:=r3.BS ht2 hx2;rw[hbx] at x0 x1 x2;exact⟨hl,x0,x1,x2⟩
 have HT:=U (Word.FV (t.ax:Int) (by omega) (by omega));have Rv:Hid (∀ A2 w2,aD A2 az w2->bL A A2 s->∀ w3 av m cap,Below w2.heap.size w2 w3->w3.ownsRow w2.heap.size 234 3 (.slice av m cap) m (ku (t.keys.flatMap (kC t)))->zk 128 #[R A.Y 0,R (A.bt s) 0,R (A.bc s) 0,.slice av m cap,.agg #[I 0,I 0,.slice none 0 0,I 3,I 0]] w3 (aZ A2 w3 s (az,.turns (t.keys.flatMap (kC t)) {over:=3}))):=by
  intro A2 w2 q st w3 av m cap Z ho;have h:=AO (q.below Z) s (t.keys.flatMap (kC t)) (.slice av m cap) (r9 ho q.mem.fresh) {over:=3} 0 0 3 0 (.slice none 0 0) rfl (.inr ⟨rfl,rfl⟩);rw[st.Y,st.bt,st.bc] at h;exact h
 have HS:Hid (∀ (l n:Nat),VL D l->n<=2->∀ w,zk 85 #[zu l,I n] w fun e G=>e=.returned (I ((af l n:Nat):Int))∧w=G):=fun l n hv hn G=>zI l n hv.lo (by have:=hv.hi;have:=hR.sl;omega) hv.u hn G
 have HKK:=U (zA hK hkl);clear hR ht hm hen hid hkl hK htl aQ B0 B1 B2 aN vZ ht2 hk2 hc2 GL hsl2;go_enter Tryz.func184,Tryz.ntmps184;go_wp2_with fail;refine wp_region_still_tail 15 (by kernel_rfl) (by kernel_rfl) ?_;simp only[jk,jl,jm,jo]
 repeat still_step
 still_call HP.out
 repeat still_step
 still_call HA.out
 refine wpStill_nil ?_;change wpList _ _ _ _ _ w.drew;generalize w.drew=wd at*;go_wp2_with (go_at_call 47;refine HL.out.mono ?_;rintro e H ⟨rfl,q1,q2⟩;have g1:=HG.out.trans q2;obtain⟨hf,d0,d1,d2⟩:=HB1.out H q1 g1;have HQ:=U (zA hf (g1.trans (Grow.drew _ _)));clear q1 q2 g1 hf);refine wp_region_still_tail 7 (by kernel_rfl) (by kernel_rfl) ?_;simp only[jk,jl,jm,jo]
 repeat still_step
 refine wpStill_nil ?_;change wpList _ _ _ _ _ H.drew;generalize H.drew=Ov at*;go_wp2_with (first|(go_at_call 125;refine HQ.out.1.mono ?_;rintro e w2 ⟨rfl,A2,q1,q2,q3,q4,q5⟩;obtain⟨y0,y1,y2,y4,y7,y6,⟨kv,kc,MB⟩,_,_,_⟩:=HB2.out A2 w2 q1 (HQ.out.2.trans q2) q3 q4 w2 (Below.refl _ _);rw[MB] at y6;have H2:=U (zA q1 (zA (HQ.out.2.trans q2) (zA q3 (zA q4 MB))));clear q1 q2 q3 q4 q5 MB)|(go_at_call 185;refine (HT.out _).mono ?_;rintro e w3 ⟨rfl,rfl⟩))
 go_loopw [6,47] (fun l i wr=>∃ k:Nat,k<=t.keys.length∧i=I k∧Below w2.heap.size w2 wr∧∃ av cap,l=.slice av ((t.keys.take k).flatMap (kC t)).length cap∧wr.ownsRow w2.heap.size 234 3 l ((t.keys.take k).flatMap (kC t)).length (ku ((t.keys.take k).flatMap (kC t)))) (fun _ i _=>t.keys.length - (intOf i).toNat)
 case atStart=>
  exact⟨0,zz _,rfl,Below.refl _ _,none,0,rfl,rfl,.inl ⟨rfl,rfl⟩⟩
 case round=>
  obtain⟨k,V,rfl,Z,av,cap,rfl,aS⟩:=hrel;have hm0:=si (kC t) (yF t) (t.keys.take k)
  by_cases hlt:k<t.keys.length
  . obtain⟨x0,x1,x2,x4,x7,x6,_,hget,hform,GM⟩:=HB2.out A2 w2 H2.out.1 H2.out.2.1 H2.out.2.2.1 H2.out.2.2.2.1 wr Z
    obtain⟨g,cap',hv⟩:=hform k hlt;obtain⟨rfl,rfl⟩:kv=za g 0∧kc=cap':=by have:=H2.out.2.2.2.2.symm.trans hv;simpa using this
    have hke:=hget k hlt g kc hv;obtain⟨x,hx,ho1,ho2⟩:=HKK.out.1 (t.keys.getD k 0) (by simp[List.getD,hlt]);obtain⟨hlk,Pf,NI,J3⟩:=GM _ x hx;have hfs:=wY (kC t) t.keys k hlt;have Pg:kC t (t.keys.getD k 0)=(if x.own≠0 then ⟨af x.own 0,0,t.ax⟩::(if x.there then [] else [⟨af x.own 1,0,t.ax⟩]) else [])++(if x.old≠0 then [⟨af x.old 1,0,t.ax⟩] else []):=by unfold kC;rw[hx];rfl
    rw[Pg] at hfs;have hlen:(t.keys.take k).length<=1000000:=by have:=HKK.out.2;simp;omega
    have HC:Hid (∀ G,Below w2.heap.size w2 G->zV G (A.bx s (t.keys.getD k 0)) 0 x.own∧zV G (A.bx s (t.keys.getD k 0)) 1 x.old∧zB G (A.bx s (t.keys.getD k 0)) 2 x.there):=fun G hb'=>by
     obtain⟨_,_,_,_,_,_,_,_,_,Ph⟩:=HB2.out A2 w2 H2.out.1 H2.out.2.1 H2.out.2.2.1 H2.out.2.2.2.1 G hb';exact (Ph _ x hx).2
    have HO:=U (zA ho1 (zA ho2 (zA hlt hfs)));have Mm:(k:Int)<(t.keys.length:Int):=by omega
    have n1:IntKind.i64.wrap ((k:Int)+1)=(k:Int)+1:=by rw[jH];have:=HKK.out.2;omega
    clear x0 x2 y0 y1 y2 y4 y7 y6 hget hform GM hv ho1 ho2 Pg hx;generalize t.keys.getD k 0=E at*;generalize hxs:ku ((t.keys.take k).flatMap (kC t))=xs at*;have J4:=U hxs;clear hxs;generalize hmm:((t.keys.take k).flatMap (kC t)).length=m at*;have HM:=U hmm;clear hmm hfs;have hm1:m<3000001:=by omega
    clear hm0 hlen V;generalize A.bx s E=bx at*
    by_cases ho:x.own≠0
    . have ho':x.own≠0:=ho
      have d1:((x.own:Int)==0)=false:=by simp;omega
      have d2:((x.own:Int) !=0)=true:=by simp;omega
      have d3:((x.own:Int)=0)=False:=by simp;omega
      clear ho'
      cases ht:x.there with
      |true=>
       by_cases hl:x.old≠0
       . have e1:((x.old:Int)==0)=false:=by simp;omega
         have e2:((x.old:Int) !=0)=true:=by simp;omega
         have e3:((x.old:Int)=0)=False:=by simp;omega
         have hfs:=HO.out.2.2.2;simp only[aV ho,aV hl,ht,if_true,if_false,Bool.false_eq_true,List.nil_append,List.append_nil,List.cons_append] at hfs;have qE:=U hfs;clear hfs;obtain⟨ws,W0,W1,W2⟩:∃ ws:Int->Int->Int,ws (x.own:Int) 0=((af x.own 0:Nat):Int)∧ws (x.own:Int) 1=((af x.own 1:Nat):Int)∧ws (x.old:Int) 1=((af x.old 1:Nat):Int):=⟨fun a b=>if b=0 then ((af a.toNat 0:Nat):Int) else ((af a.toNat 1:Nat):Int),by simp,by simp,by simp⟩
         have SL:Hid (∀ a b:Int,((a=(x.own:Int)∧b=0)∨(a=(x.own:Int)∧b=1)∨(a=(x.old:Int)∧b=1))->∀ w,zk 85 #[zu a,I b] w fun e G=>e=.returned (I (ws a b))∧w=G):=by
          rintro a b (⟨rfl,rfl⟩|⟨rfl,rfl⟩|⟨rfl,rfl⟩) w''
          . rw[W0];exact (HS.out x.own 0 (HO.out.1.resolve_left ho) (by omega) w'')
          . rw[W1];exact (HS.out x.own 1 (HO.out.1.resolve_left ho) (by omega) w'')
          . rw[W2];exact (HS.out x.old 1 (HO.out.2.1.resolve_left hl) (by omega) w'')
         have HW:=U (zA W0 (zA W1 W2));clear W0 W1 W2;clear ho hl;rw[ht] at J3 HC;clear ht;go_wp2_with (first|(go_at_call 85;refine (SL.out _ _ (by first|exact .inl ⟨rfl,rfl⟩|exact .inr (.inl ⟨rfl,rfl⟩)|exact .inr (.inr ⟨rfl,rfl⟩)) _).mono ?_;rintro e G ⟨rfl,rfl⟩)|(refine qD _ rfl _ _ rfl w2 (by assumption) _ _ _ _ rfl (by assumption) (by omega) _ _ _ rfl ?_;intro ru jR wl ql pl;obtain⟨Pf,NI,J3⟩:=HC.out wl pl))
         go_roundw
         case rel=>
          simp only[HW.out.1,HW.out.2.1,HW.out.2.2] at ql;refine⟨k+1,by have:=HO.out.2.2.1;omega,rfl,pl,ru,jR,?_,?_⟩
          . first|(rw[qE.out,jF,HM.out];done)|(rw[qE.out,jF,HM.out];rfl)
          . rw[qE.out,jF,HM.out,iQ,J4.out];simp only[List.append_assoc,List.cons_append,List.nil_append] at ql;exact ql
         case measure=>have:=HO.out.2.2.1;simp[intOf];omega
       . have e1:((x.old:Int)==0)=true:=by simp;omega
         have e2:((x.old:Int) !=0)=false:=by simp;omega
         have e3:((x.old:Int)=0)=True:=by simp;omega
         have hfs:=HO.out.2.2.2;simp only[aV ho,aX hl,ht,if_true,if_false,Bool.false_eq_true,List.nil_append,List.append_nil,List.cons_append] at hfs;have qE:=U hfs;clear hfs;obtain⟨ws,W0,W1,W2⟩:∃ ws:Int->Int->Int,ws (x.own:Int) 0=((af x.own 0:Nat):Int)∧ws (x.own:Int) 1=((af x.own 1:Nat):Int)∧ws (x.old:Int) 1=((af x.old 1:Nat):Int):=⟨fun a b=>if b=0 then ((af a.toNat 0:Nat):Int) else ((af a.toNat 1:Nat):Int),by simp,by simp,by simp⟩
         have SL:Hid (∀ a b:Int,((a=(x.own:Int)∧b=0)∨(a=(x.own:Int)∧b=1)∨False)->∀ w,zk 85 #[zu a,I b] w fun e G=>e=.returned (I (ws a b))∧w=G):=by
          rintro a b (⟨rfl,rfl⟩|⟨rfl,rfl⟩|h) w''
          . rw[W0];exact (HS.out x.own 0 (HO.out.1.resolve_left ho) (by omega) w'')
          . rw[W1];exact (HS.out x.own 1 (HO.out.1.resolve_left ho) (by omega) w'')
          . exact h.elim
         have HW:=U (zA W0 (zA W1 W2));clear W0 W1 W2;clear ho hl;rw[ht] at J3 HC;clear ht;go_wp2_with (first|(go_at_call 85;refine (SL.out _ _ (by first|exact .inl ⟨rfl,rfl⟩|exact .inr (.inl ⟨rfl,rfl⟩)|exact .inr (.inr ⟨rfl,rfl⟩)) _).mono ?_;rintro e G ⟨rfl,rfl⟩)|(refine qD _ rfl _ _ rfl w2 (by assumption) _ _ _ _ rfl (by assumption) (by omega) _ _ _ rfl ?_;intro ru jR wl ql pl;obtain⟨Pf,NI,J3⟩:=HC.out wl pl))
         go_roundw
         case rel=>
          simp only[HW.out.1,HW.out.2.1,HW.out.2.2] at ql;refine⟨k+1,by have:=HO.out.2.2.1;omega,rfl,pl,ru,jR,?_,?_⟩
          . first|(rw[qE.out,jF,HM.out];done)|(rw[qE.out,jF,HM.out];rfl)
          . rw[qE.out,jF,HM.out,iQ,J4.out];exact ql
         case measure=>have:=HO.out.2.2.1;simp[intOf];omega
          |false=>
       by_cases hl:x.old≠0
       . have e1:((x.old:Int)==0)=false:=by simp;omega
         have e2:((x.old:Int) !=0)=true:=by simp;omega
         have e3:((x.old:Int)=0)=False:=by simp;omega
         have hfs:=HO.out.2.2.2;simp only[aV ho,aV hl,ht,if_true,if_false,Bool.false_eq_true,List.nil_append,List.append_nil,List.cons_append] at hfs;have qE:=U hfs;clear hfs;obtain⟨ws,W0,W1,W2⟩:∃ ws:Int->Int->Int,ws (x.own:Int) 0=((af x.own 0:Nat):Int)∧ws (x.own:Int) 1=((af x.own 1:Nat):Int)∧ws (x.old:Int) 1=((af x.old 1:Nat):Int):=⟨fun a b=>if b=0 then ((af a.toNat 0:Nat):Int) else ((af a.toNat 1:Nat):Int),by simp,by simp,by simp⟩
         have SL:Hid (∀ a b:Int,((a=(x.own:Int)∧b=0)∨(a=(x.own:Int)∧b=1)∨(a=(x.old:Int)∧b=1))->∀ w,zk 85 #[zu a,I b] w fun e G=>e=.returned (I (ws a b))∧w=G):=by
          rintro a b (⟨rfl,rfl⟩|⟨rfl,rfl⟩|⟨rfl,rfl⟩) w''
          . rw[W0];exact (HS.out x.own 0 (HO.out.1.resolve_left ho) (by omega) w'')
          . rw[W1];exact (HS.out x.own 1 (HO.out.1.resolve_left ho) (by omega) w'')
          . rw[W2];exact (HS.out x.old 1 (HO.out.2.1.resolve_left hl) (by omega) w'')
         have HW:=U (zA W0 (zA W1 W2));clear W0 W1 W2;clear ho hl;rw[ht] at J3 HC;clear ht;go_wp2_with (first|(go_at_call 85;refine (SL.out _ _ (by first|exact .inl ⟨rfl,rfl⟩|exact .inr (.inl ⟨rfl,rfl⟩)|exact .inr (.inr ⟨rfl,rfl⟩)) _).mono ?_;rintro e G ⟨rfl,rfl⟩)|(refine qD _ rfl _ _ rfl w2 (by assumption) _ _ _ _ rfl (by assumption) (by omega) _ _ _ rfl ?_;intro ru jR wl ql pl;obtain⟨Pf,NI,J3⟩:=HC.out wl pl))
         go_roundw
         case rel=>
          simp only[HW.out.1,HW.out.2.1,HW.out.2.2] at ql;refine⟨k+1,by have:=HO.out.2.2.1;omega,rfl,pl,ru,jR,?_,?_⟩
          . first|(rw[qE.out,jF,HM.out];done)|(rw[qE.out,jF,HM.out];rfl)
          . rw[qE.out,jF,HM.out,iQ,J4.out];simp only[List.append_assoc,List.cons_append,List.nil_append] at ql;exact ql
         case measure=>have:=HO.out.2.2.1;simp[intOf];omega
       . have e1:((x.old:Int)==0)=true:=by simp;omega
         have e2:((x.old:Int) !=0)=false:=by simp;omega
         have e3:((x.old:Int)=0)=True:=by simp;omega
         have hfs:=HO.out.2.2.2;simp only[aV ho,aX hl,ht,if_true,if_false,Bool.false_eq_true,List.nil_append,List.append_nil,List.cons_append] at hfs;have qE:=U hfs;clear hfs;obtain⟨ws,W0,W1,W2⟩:∃ ws:Int->Int->Int,ws (x.own:Int) 0=((af x.own 0:Nat):Int)∧ws (x.own:Int) 1=((af x.own 1:Nat):Int)∧ws (x.old:Int) 1=((af x.old 1:Nat):Int):=⟨fun a b=>if b=0 then ((af a.toNat 0:Nat):Int) else ((af a.toNat 1:Nat):Int),by simp,by simp,by simp⟩
         have SL:Hid (∀ a b:Int,((a=(x.own:Int)∧b=0)∨(a=(x.own:Int)∧b=1)∨False)->∀ w,zk 85 #[zu a,I b] w fun e G=>e=.returned (I (ws a b))∧w=G):=by
          rintro a b (⟨rfl,rfl⟩|⟨rfl,rfl⟩|h) w''
          . rw[W0];exact (HS.out x.own 0 (HO.out.1.resolve_left ho) (by omega) w'')
          . rw[W1];exact (HS.out x.own 1 (HO.out.1.resolve_left ho) (by omega) w'')
          . exact h.elim
         have HW:=U (zA W0 (zA W1 W2));clear W0 W1 W2;clear ho hl;rw[ht] at J3 HC;clear ht;go_wp2_with (first|(go_at_call 85;refine (SL.out _ _ (by first|exact .inl ⟨rfl,rfl⟩|exact .inr (.inl ⟨rfl,rfl⟩)|exact .inr (.inr ⟨rfl,rfl⟩)) _).mono ?_;rintro e G ⟨rfl,rfl⟩)|(refine qD _ rfl _ _ rfl w2 (by assumption) _ _ _ _ rfl (by assumption) (by omega) _ _ _ rfl ?_;intro ru jR wl ql pl;obtain⟨Pf,NI,J3⟩:=HC.out wl pl))
         go_roundw
         case rel=>
          simp only[HW.out.1,HW.out.2.1,HW.out.2.2] at ql;refine⟨k+1,by have:=HO.out.2.2.1;omega,rfl,pl,ru,jR,?_,?_⟩
          . first|(rw[qE.out,jF,HM.out];done)|(rw[qE.out,jF,HM.out];rfl)
          . rw[qE.out,jF,HM.out,iQ,J4.out];simp only[List.append_assoc,List.cons_append,List.nil_append] at ql;exact ql
         case measure=>have:=HO.out.2.2.1;simp[intOf];omega
    . have d1:((x.own:Int)==0)=true:=by simp;omega
      have d2:((x.own:Int) !=0)=false:=by simp;omega
      have d3:((x.own:Int)=0)=True:=by simp;omega
      by_cases hl:x.old≠0
      . have e1:((x.old:Int)==0)=false:=by simp;omega
        have e2:((x.old:Int) !=0)=true:=by simp;omega
        have e3:((x.old:Int)=0)=False:=by simp;omega
        have hfs:=HO.out.2.2.2;simp only[aX ho,aV hl,List.nil_append,List.append_nil,List.cons_append] at hfs;have qE:=U hfs;clear hfs;obtain⟨ws,W0,W1,W2⟩:∃ ws:Int->Int->Int,ws (x.own:Int) 0=((af x.own 0:Nat):Int)∧ws (x.own:Int) 1=((af x.own 1:Nat):Int)∧ws (x.old:Int) 1=((af x.old 1:Nat):Int):=⟨fun a b=>if b=0 then ((af a.toNat 0:Nat):Int) else ((af a.toNat 1:Nat):Int),by simp,by simp,by simp⟩
        have SL:Hid (∀ a b:Int,(False∨False∨(a=(x.old:Int)∧b=1))->∀ w,zk 85 #[zu a,I b] w fun e G=>e=.returned (I (ws a b))∧w=G):=by
         rintro a b (h|h|⟨rfl,rfl⟩) w''
         . exact h.elim
         . exact h.elim
         . rw[W2];exact (HS.out x.old 1 (HO.out.2.1.resolve_left hl) (by omega) w'')
        have HW:=U (zA W0 (zA W1 W2));clear W0 W1 W2;clear ho hl;go_wp2_with (first|(go_at_call 85;refine (SL.out _ _ (by first|exact .inl ⟨rfl,rfl⟩|exact .inr (.inl ⟨rfl,rfl⟩)|exact .inr (.inr ⟨rfl,rfl⟩)) _).mono ?_;rintro e G ⟨rfl,rfl⟩)|(refine qD _ rfl _ _ rfl w2 (by assumption) _ _ _ _ rfl (by assumption) (by omega) _ _ _ rfl ?_;intro ru jR wl ql pl;obtain⟨Pf,NI,J3⟩:=HC.out wl pl))
        go_roundw
        case rel=>
         simp only[HW.out.1,HW.out.2.1,HW.out.2.2] at ql;refine⟨k+1,by have:=HO.out.2.2.1;omega,rfl,pl,ru,jR,?_,?_⟩
         . first|(rw[qE.out,jF,HM.out];done)|(rw[qE.out,jF,HM.out];rfl)
         . rw[qE.out,jF,HM.out,iQ,J4.out];exact ql
        case measure=>have:=HO.out.2.2.1;simp[intOf];omega
      . have e1:((x.old:Int)==0)=true:=by simp;omega
        have e2:((x.old:Int) !=0)=false:=by simp;omega
        have e3:((x.old:Int)=0)=True:=by simp;omega
        have hfs:=HO.out.2.2.2;simp only[aX ho,aX hl,List.nil_append,List.append_nil,List.cons_append] at hfs;have qE:=U hfs;clear hfs;clear ho hl;go_wp2_with fail
        go_roundw
        case rel=>
         refine⟨k+1,by have:=HO.out.2.2.1;omega,rfl,Z,av,cap,?_,?_⟩
         . first|(rw[qE.out,HM.out];done)|(rw[qE.out,HM.out];rfl)
         . rw[qE.out,HM.out,J4.out];exact aS
        case measure=>have:=HO.out.2.2.1;simp[intOf];omega
  . obtain rfl:k=t.keys.length:=by omega
    rw[List.take_length] at aS ⊢;obtain⟨x0,x1,x2,x4,x7,x6,_⟩:=HB2.out A2 w2 H2.out.1 H2.out.2.1 H2.out.2.2.1 H2.out.2.2.2.1 wr Z;have HE:=U (zA (Rv.out A2 w2 H2.out.1 H2.out.2.2.1 wr av _ cap Z aS) (Grow.below (L:=A2.L) Z));clear aS Z hlt V hm0;generalize (t.keys.flatMap (kC t)).length=m at*;go_wp2_with (go_at_call 128;refine HE.out.1.mono ?_;rintro e w4 ⟨A3,v,rfl,p1,p2,p3,p4⟩);go_ret;exact⟨A3,v,rfl,p1,(H2.out.2.1.trans HE.out.2).trans p2,H2.out.2.2.1.trans p3,p4⟩
def kD (t:bB) (E:Nat):List wG:=if ((t.cell E).getD default).old≠0 then [⟨af ((t.cell E).getD default).old 1,mine t,ever⟩] else []
theorem wm (D:St) (t:bB):eU D t=t.keys.flatMap (kD t):=rfl
theorem yG (t:bB) (E:Nat):(kD t E).length<=3:=by
 unfold kD
 split
 all_goals simp
theorem GN {o:Oper} {a:Act} {K:Act->World->Prop} {Q:Exit->Act->World->Prop} (w W:World) (s x:Operand)
 (ho:o.op=.call {callee:=.builtin .append,args:=#[s,x],argTypes:=#[232,232]})
 (w0:World) (Z:Below w0.heap.size w0 w) (av:Option Addr) (m cap:Nat) (xs:List Value) (hs:a.eval s=.slice av m cap) (aS:w.ownsRow w0.heap.size 234 3 (.slice av m cap) m xs) (hm:m<4000000)
 (t0 t1 t2:Int) (hW:W=(w.alloc (.cells #[I t0,zu t1,zu t2] 234)).drew) (hx:a.eval x=.slice (some (J w.heap.size 0)) 1 1)
 (h:∀ BN cap' G,G.ownsRow w0.heap.size 234 3 (.slice BN (m+1) cap') (m+1) (xs++[I t0,zu t1,zu t2])->Below w0.heap.size w0 G->K (a.put o.dst (.slice BN (m+1) cap')) G):
 o.wp Tryz.prog a W K Q:=by
 subst hW;obtain⟨ii,hii,hz0,hz1,hz2⟩:=info_parts Lf;have hw:=Z.size;have hown':(w.alloc (.cells #[I t0,zu t1,zu t2] 234)).drew.ownsRow w0.heap.size 234 3 (.slice av m cap) m xs:=mi aS fun g hg=>Below.heap_alloc _ _ _ (aS.lt g hg).2
 refine Ow.kM _ s x 232 ho w0.heap.size 234 ii _ 3 24 Tryz.underlying232 hii hz0 hz1 hz2 rfl (by decide) (.slice av m cap) m xs hs hown' (J w.heap.size 0) 1 1 (by omega) [I t0,zu t1,zu t2] hx rfl (fun j u hu=>Ow.iF w [I t0,zu t1,zu t2] _ _ rfl j u hu) (by intro u hu;simp at hu;rcases hu with rfl|rfl|rfl<;>rfl) (by unfold maxLen;omega) (by omega) (by simp[World.drew];omega) ?_;intro v' G q1 q2 q3;obtain⟨BN,cap',rfl,_⟩:=Ow.bD q1;exact h BN cap' G q1 (((Z.alloc hw _).drew).grown q2 (by simp[World.drew];omega) (fun g hg=>(aS.lt g hg).1))
set_option maxHeartbeats 16000000 in
theorem J5 (hR:aD A D w) (s:Nat) (t:bB) (ht:D.ag.getD s none=some t) (hm:A.mt s=0) (er ay:Nat) (hen:t.ax<=1099511627776) (hi1:1<=t.id) (hid:t.id<=2000) (hkl:t.keys.length<1000000) (hK:Cy D t) (htl:D.aP.length<1000000) (aQ:D.count<4000000000000000000) (b0 b1 b2 b3 b4:Nat)
 (B0:aK A.L w b0 (R A.Y 0)) (B1:aK A.L w b1 (R (A.bt s) 0)) (B2:aK A.L w b2 (I ay)) (B3:aK A.L w b3 (R (A.bc s) 0)) (B4:aK A.L w b4 (I er)):
 zk 124 #[R b0 0,R b1 0,R b2 0,R b3 0,R b4 0] w (jO A w s (D.run s (.abort er ay))):=by
 have c0:=B0.cell;have c1:=B1.cell;have e2:=hR.z2;have t4:w.cell? (J (A.bt s) 4)=zv t.ax:=hR.dZ ht 4 rfl;have t0:w.cell? (J (A.bt s) 0)=zt t.id:=hR.dZ ht 0 rfl;have HP:=U (fB hR.drew t.id (by omega));have HA:=U (jM 4 (t.ax:Int) 4 t.ax rfl rfl (by omega) (by omega) w.drew);have HL:=U (fC hR.drew (D.place t.id) (pack 4 t.ax) (by rw[hR.nw];unfold St.place;omega) aQ);have HG:=zG A.L w;obtain⟨az,vZ⟩:∃ az,az=(D.put (D.place t.id) (pack 4 t.ax)).bW s {kind:=6,t:=t.id,res:={ay:=ay}}:=⟨_,rfl⟩
 have aN:D.run s (.abort er ay)=(az,some (.turns (t.keys.flatMap (kD t)) {e:=er,over:=4,ay:=ay})):=by
  rw[vZ,<-wm (D.put (D.place t.id) (pack 4 t.ax)) t];simp only[St.run,bQ ht];rfl
 rw[aN];obtain⟨t2,ht2,hk2,hc2,GL⟩:∃ t2,az.ag.getD s none=some t2∧t2.keys=t.keys∧t2.cells=t.cells∧t2.id=t.id:=by
  have ht1:(D.put (D.place t.id) (pack 4 t.ax)).ag.getD s none=some t:=ht;rw[vZ];unfold St.bW;rw[bQ ht1]
  by_cases ho:t.over=true
  . rw[aV ho];exact⟨t,ht1,rfl,rfl,rfl⟩
  . rw[aX ho]
    refine⟨{t with over:=true},?_,rfl,rfl,rfl⟩;show ((D.put (D.place t.id) (pack 4 t.ax)).bq s {t with over:=true}).ag.getD s none=_;rw[cO (cz ht1),aV rfl]
 have HB1:Hid (∀ H,aD A (D.put (D.place t.id) (pack 4 t.ax)) H->Grow A.L w A.L H->zk 125 #[R A.Y 0,R (A.bt s) 0,.agg #[I 6,I t.id,zu 0,I 0,I 0,I 0,I 0,I 0,I 0,.slice none 0 0,I 0,I ay]] H.drew (Told A H.drew s az)∧zS H b0 0 A.Y 0∧zS H b1 0 (A.bt s) 0∧zT H b2 0 ay∧zT H (A.bt s) 0 t.id):=by
  intro H q g;rw[vZ];exact⟨Aq q.drew s t ht hm _ 6 t.id ay rfl rfl htl,(B0.grow g).cell,(B1.grow g).cell,(B2.grow g).cell,q.dZ ht 0 rfl⟩
 have HB2 : Hid (∀ A2 w2, aD A2 az w2 -> Grow A.L w A2.L w2 -> bL A A2 s -> A2.bx = A.bx -> ∀ w3, Below w2.heap.size w2 w3 -> zS w3 b0 0 A.Y 0 ∧ zS w3 b1 0 (A.bt s) 0 ∧ zT w3 b2 0 (ay : Int) ∧ zS w3 b3 0 (A.bc s) 0 ∧ zT w3 b4 0 (er : Int) ∧ w3.cell? (J (A.bt s) 7) = some (.map (some (A.bm s))) ∧ w3.cell? (J (A.bt s) 6) = some (A2.dR s) ∧
     (∃ av cap,A2.dR s=.slice av t.keys.length cap)∧(∀ k,k<t.keys.length->∀ g cap,A2.dR s=.slice (some (J g 0)) t.keys.length cap->w3.cell? (J g k)=zt (t.keys.getD k 0:Int))∧(∀ k,k<t.keys.length->∃ g cap,A2.dR s=.slice (some (J g 0)) t.keys.length cap)∧
     (∀ E x,t.cell E=some x->(Instr.lookup 116 (.map (some (A.bm s))) (I E) false).run Tryz.prog w3=.ok (R (A.bx s E) 0) w3∧zV w3 (A.bx s E) 1 x.old)∧
     zk 126 #[R (A.bt s) 0] w3.drew (fun e G=>e=.returned (zu ((mine t:Nat):Int))∧G=w3.drew)):=by
  intro A2 w2 q g st hbx w3 Z;have r3:=q.below Z;have gg:=g.trans (Grow.below (L:=A2.L) Z);have a7:=r3.dZ ht2 7 (v:=.map (some (A2.bm s))) rfl;have a6:=r3.dZ ht2 6 (v:=A2.dR s) rfl;rw[st.bt] at a7 a6;rw[st.bm] at a7;have aS:=r3.mem.all (.keys s);rw[mem_keys ht2,hk2] at aS;obtain⟨av,cap,hv,_⟩:=Ow.bD aS.1;have hget:∀ k,k<t.keys.length->(t.keys.map i64)[k]? =some (i64 (t.keys.getD k 0)):=fun k V=>by simp[List.getD,V]
  have Pj:=flip (og r3.drew s t2 ht2 (by omega) (by omega));rw[st.bt,show mine t2=mine t by unfold mine;rw[GL]] at Pj;refine⟨(B0.grow gg).cell,(B1.grow gg).cell,(B2.grow gg).cell,(B3.grow gg).cell,(B4.grow gg).cell,a7,a6,⟨av,cap,hv⟩,fun k V g' cap' hv'=>?_,fun k V=>?_,fun E x hx=>?_,Pj⟩
  . obtain⟨g1,ym,hv1,hc1⟩:=jQ aS.1 (hget k V)
    rw[hv'] at hv1;obtain⟨rfl,_⟩:g'=g1∧cap'=ym:=by simpa using hv1
    exact hc1
  . obtain⟨g1,ym,hv1,hc1⟩:=jQ aS.1 (hget k V)
    exact⟨g1,ym,hv1⟩
  . have hx2:t2.cell E=some x:=by unfold bB.cell at hx ⊢;rw[hc2];exact hx
    have hl:=eX r3 ht2 E;have hpx:A2.px s t2 E=R (A2.bx s E) 0:=by unfold au.px;rw[hx2];rfl
    rw[hpx,hbx,st.bm] at hl;obtain⟨x0,x1,x2⟩:=r3.BS ht2 hx2;rw[hbx] at x1;exact⟨hl,x1⟩
 have HF:Hid (∀ G,zk 127 #[] G fun e H=>e=.returned (zu ((ever:Nat):Int))∧H=G):=fun G=>flip (Word.nW G)
 have Rv:Hid (∀ A2 w2,aD A2 az w2->bL A A2 s->∀ w3 av m cap,Below w2.heap.size w2 w3->w3.ownsRow w2.heap.size 234 3 (.slice av m cap) m (ku (t.keys.flatMap (kD t)))->zk 128 #[R A.Y 0,R (A.bt s) 0,R (A.bc s) 0,.slice av m cap,.agg #[I er,I 0,.slice none 0 0,I 4,I ay]] w3 (aZ A2 w3 s (az,.turns (t.keys.flatMap (kD t)) {e:=er,over:=4,ay:=ay}))):=by
  intro A2 w2 q st w3 av m cap Z ho;have h:=AO (q.below Z) s (t.keys.flatMap (kD t)) (.slice av m cap) (r9 ho q.mem.fresh) {e:=er,over:=4,ay:=ay} er 0 4 ay (.slice none 0 0) rfl (.inr ⟨rfl,rfl⟩);rw[st.Y,st.bt,st.bc] at h;exact h
 have HS:Hid (∀ (l:Nat),VL D l->∀ w,zk 85 #[zu l,I 1] w fun e G=>e=.returned (I ((af l 1:Nat):Int))∧G=w):=fun l hv G=>flip (gF l 1 1 rfl hv.lo (by have:=hv.hi;have:=hR.sl;omega) hv.u (by omega) G)
 have HKK:=U (zA hK hkl);clear hR ht hm hen hid hi1 hkl hK htl aQ B0 B1 B2 B3 B4 aN vZ ht2 hk2 hc2 GL;go_enter Tryz.func124,Tryz.ntmps124;go_wp2_with fail;refine wp_region_still_tail 15 (by kernel_rfl) (by kernel_rfl) ?_;simp only[jk,jl,jm,jo]
 repeat still_step
 still_call HP.out
 repeat still_step
 still_call HA.out
 refine wpStill_nil ?_;change wpList _ _ _ _ _ w.drew;generalize w.drew=wd at*;go_wp2_with (go_at_call 47;refine HL.out.mono ?_;rintro e H ⟨rfl,q1,q2⟩;have g1:=HG.out.trans q2;obtain⟨hf,d0,d1,d2,d3⟩:=HB1.out H q1 g1;have HQ:=U (zA hf (g1.trans (Grow.drew _ _)));clear q1 q2 g1 hf);refine wp_region_still_tail 9 (by kernel_rfl) (by kernel_rfl) ?_;simp only[jk,jl,jm,jo]
 repeat still_step
 refine wpStill_nil ?_;change wpList _ _ _ _ _ H.drew;generalize H.drew=Ov at*;go_wp2_with (first|(go_at_call 125;refine HQ.out.1.mono ?_;rintro e w2 ⟨rfl,A2,q1,q2,q3,q4,q5⟩;obtain⟨y0,y1,y2,y3,y4,y7,y6,⟨kv,kc,MB⟩,_,_,_,_⟩:=HB2.out A2 w2 q1 (HQ.out.2.trans q2) q3 q4 w2 (Below.refl _ _);rw[MB] at y6;have H2:=U (zA q1 (zA (HQ.out.2.trans q2) (zA q3 (zA q4 MB))));clear q1 q2 q3 q4 q5 MB))
 go_loopw [6,41] (fun l i wr=>∃ k:Nat,k<=t.keys.length∧i=I k∧Below w2.heap.size w2 wr∧∃ av cap,l=.slice av ((t.keys.take k).flatMap (kD t)).length cap∧wr.ownsRow w2.heap.size 234 3 l ((t.keys.take k).flatMap (kD t)).length (ku ((t.keys.take k).flatMap (kD t)))) (fun _ i _=>t.keys.length - (intOf i).toNat)
 case atStart=>
  exact⟨0,zz _,rfl,Below.refl _ _,none,0,rfl,rfl,.inl ⟨rfl,rfl⟩⟩
 case round=>
  obtain⟨k,V,rfl,Z,av,cap,rfl,aS⟩:=hrel;have hm0:=si (kD t) (yG t) (t.keys.take k)
  by_cases hlt:k<t.keys.length
  . obtain⟨x0,x1,x2,x3,x4,x7,x6,_,hget,hform,GM,Pj⟩:=HB2.out A2 w2 H2.out.1 H2.out.2.1 H2.out.2.2.1 H2.out.2.2.2.1 wr Z
    obtain⟨g,cap',hv⟩:=hform k hlt;obtain⟨rfl,rfl⟩:kv=za g 0∧kc=cap':=by have:=H2.out.2.2.2.2.symm.trans hv;simpa using this
    have hke:=hget k hlt g kc hv;obtain⟨x,hx,ho1,ho2⟩:=HKK.out.1 (t.keys.getD k 0) (by simp[List.getD,hlt]);obtain⟨hlk,NI⟩:=GM _ x hx;have hfs:=wY (kD t) t.keys k hlt;have Pg:kD t (t.keys.getD k 0)=(if x.old≠0 then [⟨af x.old 1,mine t,ever⟩] else []):=by unfold kD;rw[hx];rfl
    rw[Pg] at hfs;have hlen:(t.keys.take k).length<=1000000:=by have:=HKK.out.2;simp;omega
    have HM:=U Pj;have HO:=U (zA ho2 (zA hlt hfs));have Mm:(k:Int)<(t.keys.length:Int):=by omega
    have n1:IntKind.i64.wrap ((k:Int)+1)=(k:Int)+1:=by rw[jH];have:=HKK.out.2;omega
    clear x0 x2 x3 x4 y0 y1 y2 y3 y4 y7 y6 hget hform GM hv ho1 ho2 Pg hx Pj;generalize t.keys.getD k 0=E at*;generalize hxs:ku ((t.keys.take k).flatMap (kD t))=xs at*;have J4:=U hxs;clear hxs;generalize hmm:((t.keys.take k).flatMap (kD t)).length=m at*;have Qz:=U hmm;clear hmm hfs;have hm1:m<3000001:=by omega
    clear hm0 hlen V;generalize A.bx s E=bx at*;generalize mine t=mt at*
    by_cases hl:x.old≠0
    . have hl':x.old≠0:=hl
      obtain⟨e1,e2,e3,e4,e5⟩:=o9 (x:=x.old) (c:=0) (ci:=0) (by omega);have UQ:=U (fun G=>HS.out x.old (HO.out.1.resolve_left hl) G);have hfs:=HO.out.2.2;simp only[aV hl] at hfs;have qE:=U hfs;have HOW:=U (zA aS Z);clear hfs hl hl' aS Z;generalize af x.old 1=Q8 at*;go_wp2_with fail
      go_region_law (first|(refine GN wr _ _ _ rfl w2 HOW.out.2 av m cap xs rfl HOW.out.1 (by omega) (Q8:Int) (mt:Int) ((ever:Nat):Int) rfl rfl ?_;intro ru jR wl ql pl;have Ty:=U (zA ql pl);clear ql pl)|(go_simp;go_at_call 85;refine (UQ.out _).mono ?_;rintro e G ⟨rfl,rfl⟩)|(go_simp;go_at_call 126;refine HM.out.mono ?_;rintro e G ⟨rfl,rfl⟩)|(go_simp;go_at_call 127;refine (HF.out _).mono ?_;rintro e G ⟨rfl,rfl⟩))
      all_goals
       go_wp2_with fail
       go_roundw
       case rel=>
        refine⟨k+1,by have:=HO.out.2.1;omega,rfl,Ty.out.2,ru,jR,?_,?_⟩
        . rw[qE.out,jF,Qz.out];rfl
        . rw[qE.out,jF,Qz.out,iQ,J4.out];exact Ty.out.1
       case measure=>have:=HO.out.2.1;simp[intOf];omega
    . have ho0:x.old=0:=by omega
      obtain⟨e1,e2,e3,e4,e5⟩:=qX (x:=x.old) (c:=0) (ci:=0) (by omega);have hfs:=HO.out.2.2;simp only[aX hl,List.append_nil] at hfs;have qE:=U hfs;clear hfs hl ho0;go_wp2_with fail
      go_roundw
      case rel=>exact⟨k+1,by have:=HO.out.2.1;omega,rfl,Z,av,cap,by rw[qE.out,Qz.out],by rw[qE.out,Qz.out,J4.out];exact aS⟩
      case measure=>have:=HO.out.2.1;simp[intOf];omega
  . obtain rfl:k=t.keys.length:=by omega
    rw[List.take_length] at aS ⊢;obtain⟨x0,x1,x2,x3,x4,x7,x6,_⟩:=HB2.out A2 w2 H2.out.1 H2.out.2.1 H2.out.2.2.1 H2.out.2.2.2.1 wr Z;have HE:=U (zA (Rv.out A2 w2 H2.out.1 H2.out.2.2.1 wr av _ cap Z aS) (Grow.below (L:=A2.L) Z));clear aS Z hlt V hm0;generalize (t.keys.flatMap (kD t)).length=m at*;go_wp2_with (go_at_call 128;refine HE.out.1.mono ?_;rintro e w4 ⟨A3,v,rfl,p1,p2,p3,p4⟩);go_ret;exact⟨A3,v,rfl,p1,(H2.out.2.1.trans HE.out.2).trans p2,H2.out.2.2.1.trans p3,p4⟩
end Go.Proofs.YthicolbbmjfkfaaGreat.Em
