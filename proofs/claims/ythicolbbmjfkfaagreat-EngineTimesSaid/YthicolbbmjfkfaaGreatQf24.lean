import Derived.Test.YthicolbbmjfkfaaGreatQf23
set_option linter.unusedVariables false
set_option linter.unusedSimpArgs false
set_option maxRecDepth 100000
set_option maxHeartbeats 1600000
namespace Go.Proofs.YthicolbbmjfkfaaGreat.Em.Cw
open En
structure LK (N l:Nat):Prop where
 lo:1<=l % 131072
 hi:l % 131072<=N
 u:l<18446744073709551616
def LZ (N l:Nat):Prop:=l=0∨LK N l
def Wd (w:Nat):Prop:=(rd w).1=2->(rd w).2<=2000
structure BZ (N L i v:Nat):Prop where
 u:v<18446744073709551616
 ck:i=0->aj v<=L∧aZ v<=2000
 lv:1<=i->i<=8->v<=L
 hd:9<=i->i<73->LZ N v
 nx:73<=i->i<73+N*3->i % 3=0->LZ N v
 V:73<=i->i<73+N*3->i % 3≠0->Wd v
structure Pool (N:Nat) (D:St):Prop where
 fr:∀ i∈D.free,i<N∧(D.tags.getD i (0,false)).2=false
 nd:D.free.Nodup
 tg:∀ i,(D.tags.getD i (0,false)).1<=65535
 ls:D.listed=false->D.free=[]∧∀ i,(D.tags.getD i (0,false)).2=false
 w0:D.listed=false->D.jh=0∧D.tags.countP (·.2)=0
 sm:D.listed=true->D.free.length+D.jh+D.tags.countP (·.2)<=N
structure Sh (N L n:Nat) (D:St):Prop where
 sl:D.aG=N
 lm:D.limit=L
 n1:N<=256
 l1:L<=1099511627776
 nw:D.words.length=73+N*3+2001
 nt:D.tags.length=N
 nv:D.values.length=N
 t8:D.ai.length=8
 c8:D.calls.length=8
 md:D.aB<=2000
 wd:∀ i,BZ N L i (D.word i)
 bP:Pool N D
 wn:D.jh<=n
 tl:D.aQ.length<=n
 tp:∀ e∈D.aQ,e.res.aL.length<=64
structure TX (N L n:Nat) (t:bL):Prop where
 i1:1<=t.id
 i2:t.id<=2000
 op:t.ops<=12
 bg:t.aJ<=L
 en:t.ay<=L
 ce:∀ p∈t.cells,LZ N p.2.own∧LZ N p.2.old∧(p.2.there=true->LK N p.2.own)
 ky:∀ k∈t.keys,∃ x,t.cell k=some x
 kn:t.keys.length<=n
 rd:∀ r∈t.reads,r.1<64
 rn:t.reads.length<=n
 bd:∀ b∈t.aR,b<=2000
 bn:t.aR.length<=n
def iA (t:bL) (c:dY) (h:dR):Prop:=h.F<64∧match h.thn with
 |.get=>True
 |.scan k=>k=h.F∧c.op.hi<=63∧c.r.aL.length<=k
 |.change=>c.op.F=h.F∧t.cell c.op.F=none
 |.judge i _=>i<t.reads.length
def xh (N L:Nat) (t:bL) (c:dY):K->Prop
 |.fin r=>r.over=0∧r.aL.length<=64
 |.start h=>iA t c h
 |.visit h G=>iA t c h∧LK N G
 |.older h G=>iA t c h∧LK N G
 |.maker h G id=>iA t c h∧LK N G∧id<=2000
 |.ended h G mb=>iA t c h∧LK N G∧mb<=2000
 |.ik h G mb id=>iA t c h∧LK N G∧mb<=2000∧id<=2000
 |.seen h G mb=>iA t c h∧LK N G∧mb<=2000
 |.again e=>e<18446744073709551616∧Wd e∧∃ x,t.cell c.op.F=some x∧LK N x.own
 |.own G=>LK N G∧t.cell c.op.F=none∧c.op.F<64
 |.iw G w id=>LK N G∧t.cell c.op.F=none∧c.op.F<64∧id<=2000
 |.claim G w=>LK N G∧t.cell c.op.F=none∧c.op.F<64
 |.fresh G=>LZ N G∧t.cell c.op.F=none∧c.op.F<64
 |.next G head at_=>LZ N G∧LZ N head∧LK N at_∧t.cell c.op.F=none∧c.op.F<64
 |.free G head at_=>LZ N G∧LZ N head∧LK N at_∧t.cell c.op.F=none∧c.op.F<64
 |.dX G head at_ id=>LZ N G∧LZ N head∧LK N at_∧id<=2000∧t.cell c.op.F=none∧c.op.F<64
 |.fJ x G head=>LK N G∧c.op.F<64∧(if x=true then (t.cell c.op.F).isSome=true else t.cell c.op.F=none∧LZ N head)
 |.eU x G head=>LK N G∧c.op.F<64∧(if x=true then (t.cell c.op.F).isSome=true else t.cell c.op.F=none∧LZ N head)
 |.push G head=>LK N G∧LZ N head∧t.cell c.op.F=none∧c.op.F<64
 |.dV G head=>LK N G∧LZ N head∧t.cell c.op.F=none∧c.op.F<64
 |.over G=>LK N G∧(t.cell c.op.F).isSome=true∧c.op.F<64
 |.iB G head=>LK N G∧LZ N head∧(t.cell c.op.F).isSome=true∧c.op.F<64
 |.eu G head=>LK N G∧LZ N head∧(t.cell c.op.F).isSome=true∧c.op.F<64
 |.draw=>True
 |.eX w now=>w<18446744073709551616∧aZ w<=2000∧now<L∧aj w<=L
 |.turn w now=>now<L
 |.eB=>True
 |.wait i=>i<t.aR.length
 |.cZ=>True
 |.abort _ _=>True
 |.turns l r=>(r.over=3∨r.over=4)∧r.aL=[]∧∀ x∈l,BZ N L x.at_ x.new∧73<=x.at_∧x.at_<73+N*3
structure CX (N L:Nat) (t:bL) (c:dY):Prop where
 op:nX c.op=true
 ov:c.over=false
 ro:c.r.over=0
 k:∃ k,c.k=some k∧xh N L t c k
def Ga (N:Nat):S->Prop
 |.now=>True
 |.live s=>s<8
 |.head F=>F<=63
 |.visit F ak G=>F<=63∧LZ N ak∧LK N G
 |.maker F ak G id=>F<=63∧LZ N ak∧LK N G∧id<=2000
 |.dC F ak G b=>F<=63∧LZ N ak∧LK N G
 |.on F G=>F<=63∧LK N G
 |.unlink F ak G=>F<=63∧LZ N ak∧LK N G
 |.cut F ak G next=>F<=63∧LZ N ak∧LK N G∧LZ N next
structure SX (N L n:Nat) (D:St):Prop where
 so:∀ x,D.sw=some x->Ga N x
 lo:D.low<=L
 cu:∀ p∈D.cut,LK N p.1∧p.2<=D.seq
 cn:D.cut.length<=D.cuts
 cb:D.cuts<=n
structure WF (N L n:Nat) (D:St):Prop where
 sh:Sh N L n D
 sx:SX N L n D
 tx:∀ s t,D.ai.getD s none=some t->TX N L n t
 ti:∀ s t,D.ai.getD s none=some t->t.id<=D.aB
 cx:∀ s c,D.calls.getD s none=some c->∃ t,D.ai.getD s none=some t∧CX N L t c
theorem LK.ag {N l:Nat} (h:LK N l):ag l<N:=by have:=h.lo;have:=h.hi;unfold En.ag;omega
theorem LZ.of {N l:Nat} (h:LZ N l) (hn:l≠0):LK N l:=h.resolve_left hn
theorem LK.ne {N l:Nat} (h:LK N l):l≠0:=by rintro rfl;have:=h.lo;omega
theorem BZ.zero (N L i:Nat):BZ N L i 0:=by
 refine⟨by decide,fun _=>⟨by simp[aj],by simp[aZ]⟩,fun _ _=>zz _,fun _ _=>.inl rfl,fun _ _ _=>.inl rfl,fun _ _ _=>?_⟩;unfold Wd;decide
theorem gX (l:List Nat) (i v j:Nat):(l.set i v).getD j 0=if j=i∧i<l.length then v else l.getD j 0:=by
 simp only[mM,List.getElem?_set]
 by_cases h:i=j
 . subst h
   by_cases hl:i<l.length
   . simp[hl]
   . simp[hl]
 . have h2:¬ j=i:=fun e=>h e.symm
   simp[h,h2]
theorem cz (D:St) (i v j:Nat):(D.put i v).word j=if j=i∧i<D.words.length then v else D.word j:=gX _ _ _ _
theorem Sh.tick {N L n:Nat} {D:St} (h:Sh N L n D):Sh N L n D.tick:=⟨h.sl,h.lm,h.n1,h.l1,h.nw,h.nt,h.nv,h.t8,h.c8,h.md,h.wd,⟨h.bP.fr,h.bP.nd,h.bP.tg,h.bP.ls,h.bP.w0,h.bP.sm⟩,h.wn,h.tl,h.tp⟩
theorem Sh.put {N L n:Nat} {D:St} (h:Sh N L n D) {i v:Nat} (hv:BZ N L i v):Sh N L n (D.put i v):=by
 refine⟨h.sl,h.lm,h.n1,h.l1,?_,h.nt,h.nv,h.t8,h.c8,h.md,fun j=>?_,⟨h.bP.fr,h.bP.nd,h.bP.tg,h.bP.ls,h.bP.w0,h.bP.sm⟩,h.wn,h.tl,h.tp⟩
 . show (D.words.set i v).length=_
   rw[nD];exact h.nw
 . rw[cz]
   split
   . rename_i e;rw[e.1];exact hv
   . exact h.wd j
theorem Sh.cB {N L n:Nat} {D:St} (h:Sh N L n D) {i o v:Nat} (hv:BZ N L i v):Sh N L n (D.cB i o v):=by
 unfold St.cB
 split
 . exact h.put hv
 . exact h.tick
theorem Sh.bM {N L n:Nat} {D:St} (h:Sh N L n D) (s:Nat) (t:bL):Sh N L n (D.bM s t):=
 ⟨h.sl,h.lm,h.n1,h.l1,h.nw,h.nt,h.nv,by show (D.ai.set s _).length=8;rw[nD];exact h.t8,h.c8,h.md,h.wd,⟨h.bP.fr,h.bP.nd,h.bP.tg,h.bP.ls,h.bP.w0,h.bP.sm⟩,h.wn,h.tl,h.tp⟩
theorem Sh.aM {N L n:Nat} {D:St} (h:Sh N L n D) (s:Nat) (c:dY):Sh N L n (D.aM s c):=
 ⟨h.sl,h.lm,h.n1,h.l1,h.nw,h.nt,h.nv,h.t8,by show (D.calls.set s _).length=8;rw[nD];exact h.c8,h.md,h.wd,⟨h.bP.fr,h.bP.nd,h.bP.tg,h.bP.ls,h.bP.w0,h.bP.sm⟩,h.wn,h.tl,h.tp⟩
theorem Sh.event {N L n:Nat} {D:St} (h:Sh N L n D) (e:Ev) (he:e.res.aL.length<=64:=by first|exact zz _|assumption):Sh N L (n+1) (D.event e):=
 ⟨h.sl, h.lm, h.n1, h.l1, h.nw, h.nt, h.nv, h.t8, h.c8, h.md, h.wd, ⟨h.bP.fr, h.bP.nd, h.bP.tg, h.bP.ls, h.bP.w0, h.bP.sm⟩, Nat.le_succ_of_le h.wn, by show (D.aQ ++ [e]).length <= _; rw [jb]; have := h.tl; simp; omega, fun x hx => by
   have hx':x∈D.aQ++[e]:=hx
   rw[List.mem_append] at hx'
   rcases hx' with hx'|hx'
   . exact h.tp x hx'
   . simp at hx';subst hx';exact he⟩
theorem Sh.vals {N L n:Nat} {D:St} (h:Sh N L n D) (i:Nat) (v:Nat×Nat):Sh N L n {D with values:=D.values.set i v}:=
 ⟨h.sl,h.lm,h.n1,h.l1,h.nw,h.nt,by show (D.values.set i v).length=N;rw[nD];exact h.nv,h.t8,h.c8,h.md,h.wd,⟨h.bP.fr,h.bP.nd,h.bP.tg,h.bP.ls,h.bP.w0,h.bP.sm⟩,h.wn,h.tl,h.tp⟩
theorem Sh.mono {N L n n':Nat} {D:St} (h:Sh N L n D) (hn:n<=n'):Sh N L n' D:=⟨h.sl,h.lm,h.n1,h.l1,h.nw,h.nt,h.nv,h.t8,h.c8,h.md,h.wd,h.bP,fq h.wn hn,fq h.tl hn,h.tp⟩
theorem TX.mono {N L n n':Nat} {t:bL} (h:TX N L n t) (hn:n<=n'):TX N L n' t:=⟨h.i1,h.i2,h.op,h.bg,h.en,h.ce,h.ky,fq h.kn hn,h.rd,fq h.rn hn,h.bd,fq h.bn hn⟩
theorem Sh.uw {N L n:Nat} {D:St} (h:Sh N L n D) (i:Nat) (v:Nat×Bool) (j:Nat):(D.tags.set i v).getD j (0,false)=if j=i∧i<N then v else D.tags.getD j (0,false):=by
 rw[<-h.nt];simp only[mM,List.getElem?_set]
 by_cases e:i=j
 . subst e
   by_cases hl:i<D.tags.length
   . simp[hl]
   . simp[hl]
 . have h2:¬ j=i:=fun e'=>e e'.symm
   simp[e,h2]
theorem Sh.list {N L n:Nat} {D:St} (h:Sh N L n D):Sh N L n D.list:=by
 unfold St.list
 split
 . exact h
 . rename_i hl
   have hl':D.listed=false:=by simpa using hl
   obtain⟨hf,ht⟩:=h.bP.ls hl';refine⟨h.sl,h.lm,h.n1,h.l1,h.nw,h.nt,h.nv,h.t8,h.c8,h.md,h.wd,⟨fun i hi=>?_,?_,h.bP.tg,fun e=>(by cases e),fun e=>(by cases e),fun _=>?_⟩,h.wn,h.tl,h.tp⟩
   . change i∈D.free++(List.range D.aG).reverse at hi
     rw[hf,h.sl] at hi;simp at hi;exact⟨hi,ht i⟩
   . show (D.free++(List.range D.aG).reverse).Nodup
     rw[hf,List.nil_append];exact List.pairwise_reverse.2 ((List.nodup_range (n:=D.aG)).imp fun h=>Ne.symm h)
   . obtain⟨e1,e2⟩:=h.bP.w0 hl'
     show (D.free++(List.range D.aG).reverse).length+D.jh+D.tags.countP (·.2)<=N;rw[e1,e2,hf,h.sl];simp
theorem Jh {N i tag:Nat} (hN:N<=256) (hi:i<N) (ht:tag<=65535):LK N (rf i tag):=by
 refine⟨?_,?_,?_⟩<;>(unfold rf;omega)
theorem nQ (D:St):D.list.listed=true:=by
 unfold St.list
 split
 . assumption
 . rfl
theorem Sh.take {N L n:Nat} {D:St} (h:Sh N L n D):Sh N L n D.take.1∧∀ l,D.take.2=some l->LK N l:=by
 have hL:=h.list;unfold St.take;simp only
 split
 . exact⟨hL,fun l e=>by cases e⟩
 . rename_i i hi
   have hmem:i∈D.list.free:=List.mem_of_getLast? hi;have hfr:=hL.bP.fr i hmem;have hsplit:D.list.free=D.list.free.dropLast++[i]:=by
    have hne:D.list.free≠[]:=by intro e;rw[e] at hi;cases hi
    have h1:=List.dropLast_concat_getLast hne;have h2:D.list.free.getLast hne=i:=by
     rw[List.getLast?_eq_some_getLast hne] at hi;exact zj hi
    rw[h2] at h1;exact h1.symm
   have hnd:=hL.bP.nd;rw[hsplit] at hnd;rw[List.nodup_append] at hnd;refine⟨⟨hL.sl,hL.lm,hL.n1,hL.l1,hL.nw,?_,hL.nv,hL.t8,hL.c8,hL.md,hL.wd,⟨fun j hj=>?_,hnd.1,fun j=>?_,fun e=>?_,fun e=>?_,fun _=>?_⟩,hL.wn,hL.tl,hL.tp⟩,fun l e=>?_⟩
   . show (D.list.tags.set i _).length=N
     rw[nD];exact hL.nt
   . have hj':j∈D.list.free.dropLast:=hj
     have hjm:j∈D.list.free:=by rw[hsplit];exact List.mem_append_left _ hj'
     refine⟨(hL.bP.fr j hjm).1,?_⟩;show ((D.list.tags.set i _).getD j (0,false)).2=false;rw[hL.uw];have hne:¬ j=i:=fun e=>hnd.2.2 j hj' i (by simp) e
     rw[bu (fun e=>hne e.1)];exact (hL.bP.fr j hjm).2
   . show ((D.list.tags.set i _).getD j (0,false)).1<=65535
     rw[hL.uw]
     split
     . exact hL.bP.tg i
     . exact hL.bP.tg j
   . exfalso
     have e':D.list.listed=false:=e;rw[nQ] at e'
     cases e'
   . exfalso
     have e':D.list.listed=false:=e;rw[nQ] at e'
     cases e'
   . have hsm:=hL.bP.sm (nQ D)
     have hl1:D.list.free.length=D.list.free.dropLast.length+1:=by rw[hsplit];simp
     have hil:i<D.list.tags.length:=by rw[hL.nt];exact hfr.1
     have hfl:D.list.tags[i].2=false:=by have:=hfr.2;rw[mM,ym hil] at this;exact this
     show D.list.free.dropLast.length+D.list.jh+(D.list.tags.set i ((D.list.tags.getD i (0,false)).1,true)).countP (·.2)<=N;rw[List.countP_set hil,hfl];simp;omega
   . obtain rfl:=zj e
     exact Jh h.n1 hfr.1 (hL.bP.tg i)
theorem tu {D:St} {G:Nat} (h:(D.tags.getD (ag G) (0,false)).2=true):∃ hl:ag G<D.tags.length,D.tags[ag G].2=true:=by
 rw[mM] at h
 by_cases hl:ag G<D.tags.length
 . rw[ym hl] at h;exact⟨hl,h⟩
 . rw[q9 (by omega)] at h;cases h
theorem Sh.give {N L n:Nat} {D:St} (h:Sh N L n D) (G:Nat):Sh N L (n+1) (D.give G):=by
 unfold St.give
 split
 . rename_i hp
   have hp2:=hp;unfold St.kJ at hp2;simp only[gT,zd,beq_iff_eq] at hp2;obtain⟨⟨⟨h1,h2⟩,h3⟩,h4⟩:=hp2;have hlt:ag G<N:=by rw[h.sl] at h2;unfold ag;omega
   have hls:D.listed=true:=by
    cases e:D.listed with
    |true=>rfl
    |false=>have:=(h.bP.ls e).2 (ag G);rw[this] at h3;cases h3
   simp only
   split
   . refine⟨h.sl,h.lm,h.n1,h.l1,h.nw,by show (D.tags.set _ _).length=N;rw[nD];exact h.nt,h.nv,h.t8,h.c8,h.md,h.wd,⟨fun j hj=>?_,h.bP.nd,fun j=>?_,fun e=>(by rw[show D.listed=false from e] at hls;cases hls),fun e=>(by rw[show D.listed=false from e] at hls;cases hls),fun _=>?_⟩,Nat.succ_le_succ h.wn,Nat.le_succ_of_le h.tl,h.tp⟩
     . refine⟨(h.bP.fr j hj).1,?_⟩
       show ((D.tags.set _ _).getD j (0,false)).2=false;rw[h.uw]
       split
       . rfl
       . exact (h.bP.fr j hj).2
     . show ((D.tags.set _ _).getD j (0,false)).1<=65535
       rw[h.uw]
       split
       . exact h.bP.tg _
       . exact h.bP.tg j
     . obtain⟨hl,ht⟩:=tu h3
       have hsm:=h.bP.sm hls;have hpos:0<D.tags.countP (·.2):=List.countP_pos_iff.2 ⟨_,List.getElem_mem hl,ht⟩;show D.free.length+(D.jh+1)+(D.tags.set (ag G) _).countP (·.2)<=N;rw[List.countP_set hl,ht];simp;omega
   . rename_i J9
     have Zb:=h.bP.tg (ag G);refine⟨h.sl,h.lm,h.n1,h.l1,h.nw,by show (D.tags.set _ _).length=N;rw[nD];exact h.nt,h.nv,h.t8,h.c8,h.md,h.wd,⟨fun j hj=>?_,?_,fun j=>?_,fun e=>(by rw[show D.listed=false from e] at hls;cases hls),fun e=>(by rw[show D.listed=false from e] at hls;cases hls),fun _=>?_⟩,Nat.le_succ_of_le h.wn,Nat.le_succ_of_le h.tl,h.tp⟩
     . have hj':j∈D.free++[ag G]:=hj
       show j<N∧((D.tags.set _ _).getD j (0,false)).2=false;rw[h.uw];rw[List.mem_append] at hj'
       rcases hj' with hj'|hj'
       . refine⟨(h.bP.fr j hj').1,?_⟩
         split
         . rfl
         . exact (h.bP.fr j hj').2
       . simp at hj'
         subst hj';exact⟨hlt,by rw[aW ⟨rfl,hlt⟩]⟩
     . show (D.free++[ag G]).Nodup
       rw[List.nodup_append];refine⟨h.bP.nd,by simp,fun a ha b Z e=>?_⟩;simp at Z;subst Z;subst e;rw[(h.bP.fr _ ha).2] at h3
       cases h3
     . show ((D.tags.set _ _).getD j (0,false)).1<=65535
       rw[h.uw]
       split
       . show _+1<=65535
         omega
       . exact h.bP.tg j
     . obtain⟨hl,ht⟩:=tu h3
       have hsm:=h.bP.sm hls;have hpos:0<D.tags.countP (·.2):=List.countP_pos_iff.2 ⟨_,List.getElem_mem hl,ht⟩;show (D.free++[ag G]).length+D.jh+(D.tags.set (ag G) _).countP (·.2)<=N;rw[List.countP_set hl,ht];simp;omega
 . exact h.mono (pQ _)
theorem mV:∀ (N:Nat) (l:List Nat),l.Nodup->(∀ i∈l,i<N)->l.length<=N
 |0,l,_,h=>by
  cases l with
  |nil=>simp
  |cons a l=>exact absurd (h a iG) (by omega)
 |N+1,l,hn,h=>by
  by_cases hm:N∈l
  . have h1 := mV N (l.erase N) (hn.erase N) (fun i hi => by
      have h2:=(List.Nodup.mem_erase_iff hn).1 hi
      have h3:=h i h2.2
      omega)
    rw[List.length_erase_of_mem hm] at h1;omega
  . have := mV N l hn (fun i hi => by
      have:=h i hi
      have hne:i≠N:=by rintro rfl;exact hm hi
      omega)
    omega
theorem Pool.len {N:Nat} {D:St} (h:Pool N D):D.free.length<=N:=mV N _ h.nd (fun i hi=>(h.fr i hi).1)
theorem aS {α:Type} (l:List (Option α)) (s:Nat) (x:Option α) (q:Nat) (hs:s<l.length):(l.set s x).getD q none=if q=s then x else l.getD q none:=by
 simp only[mM,List.getElem?_set]
 by_cases h:s=q
 . subst h;simp[hs]
 . have h2:¬ q=s:=fun e=>h e.symm
   simp[h,h2]
def Ji (D τ:St):Prop:=τ.sw=D.sw∧τ.low=D.low∧τ.cut=D.cut∧τ.cuts=D.cuts
structure Mid (N L n s d:Nat) (D τ:St) (t:bL) (c:dY):Prop where
 s8:s<8
 sh:Sh N L n τ
 tx:τ.ai.getD s none=some t
 ca:τ.calls.getD s none=some c
 t1:TX N L n t
 op:nX c.op=true
 ox:∀ q,q≠s->τ.ai.getD q none=D.ai.getD q none
 oc:∀ q,q≠s->τ.calls.getD q none=D.calls.getD q none
 ct:τ.count=D.count+d
 lk:τ.aA=D.aA
 sq:τ.seq=D.seq
 md:τ.aB=D.aB
 sp:Ji D τ
 oq:c.op=(D.c s).op∧c.seq=(D.c s).seq
 tq:t.id=(D.t s).id
section
variable {N L n s d:Nat} {D τ:St} {t:bL} {c:dY}
theorem Mid.et (m:Mid N L n s d D τ t c):τ.t s=t:=by unfold St.t;rw[m.tx];rfl
theorem Mid.ec (m:Mid N L n s d D τ t c):τ.c s=c:=by unfold St.c;rw[m.ca];rfl
theorem Mid.tick (m:Mid N L n s d D τ t c):Mid N L n s (d+1) D τ.tick t c:=⟨m.s8,m.sh.tick,m.tx,m.ca,m.t1,m.op,m.ox,m.oc,by show τ.count+1=_;have:=m.ct;omega,m.lk,m.sq,m.md,m.sp,m.oq,m.tq⟩
theorem Mid.put (m:Mid N L n s d D τ t c) {i v:Nat} (hv:BZ N L i v):Mid N L n s (d+1) D (τ.put i v) t c:=⟨m.s8,m.sh.put hv,m.tx,m.ca,m.t1,m.op,m.ox,m.oc,by show τ.count+1=_;have:=m.ct;omega,m.lk,m.sq,m.md,m.sp,m.oq,m.tq⟩
theorem Mid.cB (m:Mid N L n s d D τ t c) {i o v:Nat} (hv:BZ N L i v):Mid N L n s (d+1) D (τ.cB i o v) t c:=by
 unfold St.cB
 split
 . exact m.put hv
 . exact m.tick
theorem Mid.bM (m:Mid N L n s d D τ t c) {t2:bL} (h:TX N L n t2) (hq:t2.id=t.id:=by rfl):Mid N L n s d D (τ.bM s t2) t2 c:=by
 refine⟨m.s8,m.sh.bM s t2,?_,m.ca,h,m.op,fun q hq=>?_,m.oc,m.ct,m.lk,m.sq,m.md,m.sp,m.oq,hq.trans m.tq⟩
 . show (τ.ai.set s (some t2)).getD s none=_
   rw[aS _ _ _ _ (by rw[m.sh.t8];exact m.s8),aW rfl]
 . show (τ.ai.set s (some t2)).getD q none=_
   rw[aS _ _ _ _ (by rw[m.sh.t8];exact m.s8),bu hq,m.ox q hq]
theorem Mid.aM (m:Mid N L n s d D τ t c) (c2:dY) (h:c2.op=c.op∧c2.seq=c.seq):Mid N L n s d D (τ.aM s c2) t c2:=by
 refine⟨m.s8,m.sh.aM s c2,m.tx,?_,m.t1,by rw[h.1];exact m.op,m.ox,fun q hq=>?_,m.ct,m.lk,m.sq,m.md,m.sp,⟨h.1.trans m.oq.1,h.2.trans m.oq.2⟩,m.tq⟩
 . show (τ.calls.set s (some c2)).getD s none=_
   rw[aS _ _ _ _ (by rw[m.sh.c8];exact m.s8),aW rfl]
 . show (τ.calls.set s (some c2)).getD q none=_
   rw[aS _ _ _ _ (by rw[m.sh.c8];exact m.s8),bu hq,m.oc q hq]
theorem Mid.event (m:Mid N L n s d D τ t c) (e:Ev) (he:e.res.aL.length<=64:=by first|exact zz _|assumption):Mid N L (n+1) s d D (τ.event e) t c:=⟨m.s8,m.sh.event e he,m.tx,m.ca,m.t1.mono (pQ _),m.op,m.ox,m.oc,m.ct,m.lk,m.sq,m.md,m.sp,m.oq,m.tq⟩
theorem Mid.vals (m:Mid N L n s d D τ t c) (i:Nat) (v:Nat×Nat):Mid N L n s d D {τ with values:=τ.values.set i v} t c:=⟨m.s8,m.sh.vals i v,m.tx,m.ca,m.t1,m.op,m.ox,m.oc,m.ct,m.lk,m.sq,m.md,m.sp,m.oq,m.tq⟩
theorem Mid.mono {n':Nat} (m:Mid N L n s d D τ t c) (h:n<=n'):Mid N L n' s d D τ t c:=⟨m.s8,m.sh.mono h,m.tx,m.ca,m.t1.mono h,m.op,m.ox,m.oc,m.ct,m.lk,m.sq,m.md,m.sp,m.oq,m.tq⟩
theorem Jj (D:St):D.list.ai=D.ai∧D.list.calls=D.calls∧D.list.count=D.count∧D.list.aA=D.aA∧D.list.seq=D.seq∧D.list.aB=D.aB∧D.list.aQ=D.aQ∧D.list.words=D.words∧D.list.jh=D.jh:=by
 unfold St.list;split<;>exact⟨rfl,rfl,rfl,rfl,rfl,rfl,rfl,rfl,rfl⟩
theorem uy (D:St):D.take.1.ai=D.ai∧D.take.1.calls=D.calls∧D.take.1.count=D.count∧D.take.1.aA=D.aA∧D.take.1.seq=D.seq∧D.take.1.aB=D.aB∧D.take.1.aQ=D.aQ∧D.take.1.words=D.words∧D.take.1.jh=D.jh:=by
 unfold St.take;simp only
 split<;>exact Jj D
theorem oK (D:St) (l:Nat):(D.give l).ai=D.ai∧(D.give l).calls=D.calls∧(D.give l).count=D.count∧(D.give l).aA=D.aA∧(D.give l).seq=D.seq∧(D.give l).aB=D.aB∧(D.give l).aQ=D.aQ∧(D.give l).words=D.words:=by
 unfold St.give
 split
 . simp only
   split<;>exact⟨rfl,rfl,rfl,rfl,rfl,rfl,rfl,rfl⟩
 . exact⟨rfl,rfl,rfl,rfl,rfl,rfl,rfl,rfl⟩
theorem OY (D:St):Ji D D.list:=by unfold St.list;split<;>exact⟨rfl,rfl,rfl,rfl⟩
theorem OZ (D:St):Ji D D.take.1:=by
 unfold St.take;simp only
 split<;>exact OY D
theorem Bp (D:St) (l:Nat):Ji D (D.give l):=by
 unfold St.give
 split
 . simp only
   split<;>exact⟨rfl,rfl,rfl,rfl⟩
 . exact⟨rfl,rfl,rfl,rfl⟩
theorem Mid.take (m:Mid N L n s d D τ t c):Mid N L n s d D τ.take.1 t c:=by
 obtain⟨e1,e2,e3,e4,e5,e6,-⟩:=uy τ;obtain⟨s1,s2,s3,s4⟩:=OZ τ;exact⟨m.s8,m.sh.take.1,by rw[e1];exact m.tx,by rw[e2];exact m.ca,m.t1,m.op,fun q hq=>by rw[e1];exact m.ox q hq,fun q hq=>by rw[e2];exact m.oc q hq,by rw[e3];exact m.ct,by rw[e4];exact m.lk,by rw[e5];exact m.sq,by rw[e6];exact m.md,by have:=m.sp;unfold Ji at this ⊢;rw[s1,s2,s3,s4];exact this,m.oq,m.tq⟩
theorem Mid.give (m:Mid N L n s d D τ t c) (l:Nat):Mid N L (n+1) s d D (τ.give l) t c:=by
 obtain⟨e1,e2,e3,e4,e5,e6,-⟩:=oK τ l;obtain⟨s1,s2,s3,s4⟩:=Bp τ l;exact⟨m.s8,m.sh.give l,by rw[e1];exact m.tx,by rw[e2];exact m.ca,m.t1.mono (pQ _),m.op,fun q hq=>by rw[e1];exact m.ox q hq,fun q hq=>by rw[e2];exact m.oc q hq,by rw[e3];exact m.ct,by rw[e4];exact m.lk,by rw[e5];exact m.sq,by rw[e6];exact m.md,by have:=m.sp;unfold Ji at this ⊢;rw[s1,s2,s3,s4];exact this,m.oq,m.tq⟩
def Out (N L n s d:Nat) (D:St) (r:St×K):Prop:=∃ t c,Mid N L n s d D r.1 t c∧c.over=false∧c.r.over=0∧xh N L t c r.2
theorem Out.mono {n':Nat} {r:St×K} (h:Out N L n s d D r) (hn:n<=n'):Out N L n' s d D r:=by
 obtain⟨t,c,m,h⟩:=h;exact⟨t,c,m.mono hn,h⟩
theorem O3 (h:TX N L n t) (F G:Nat) (got:Bool) (Y:F<64):TX N L (n+1) {t with reads:=t.reads++[(F,G,got)]}:=
 ⟨h.i1, h.i2, h.op, h.bg, h.en, h.ce, h.ky, Nat.le_succ_of_le h.kn, fun r hr => by
   have hr':r∈t.reads++[(F,G,got)]:=hr
   rw[List.mem_append] at hr'
   rcases hr' with hr'|hr'
   . exact h.rd r hr'
   . simp at hr';subst hr';exact Y,by show (t.reads++_).length<=_;rw[jb];have:=h.rn;simp;omega,h.bd,Nat.le_succ_of_le h.bn⟩
theorem Mid.read (m:Mid N L n s d D τ t c) (F G:Nat) (got:Bool) (Y:F<64):Mid N L (n+1) s d D (τ.read s F G got) {t with reads:=t.reads++[(F,G,got)]} c:=by
 unfold St.read;rw[m.et];exact (m.mono (pQ _)).bM (O3 m.t1 F G got Y)
theorem Mid.bind (m:Mid N L n s d D τ t c) (tq:Nat) (hto:tq<=2000):∃ t2,Mid N L (n+1) s d D (τ.bind s tq) t2 c∧t2.cells=t.cells∧t2.reads=t.reads∧t2.ay=t.ay:=by
 unfold St.bind;rw[m.et]
 split
 . exact⟨t,m.mono (pQ _),rfl,rfl,rfl⟩
 . have h:=m.t1
   refine⟨{t with aR:=t.aR++[tq]},?_,rfl,rfl,rfl⟩
   have hT : TX N L (n + 1) { t with aR := t.aR ++ [tq] } := ⟨h.i1, h.i2, h.op, h.bg, h.en, h.ce, h.ky, Nat.le_succ_of_le h.kn, h.rd, Nat.le_succ_of_le h.rn, fun b Z => by
     have hb':b∈t.aR++[tq]:=Z
     rw[List.mem_append] at hb'
     rcases hb' with hb'|hb'
     . exact h.bd b hb'
     . simp at hb';subst hb';exact hto,by show (t.aR++_).length<=_;rw[jb];have:=h.bn;simp;omega⟩
   have m2:=(m.mono (pQ n)).bM hT;refine⟨m.s8,(m.sh.bM s {t with aR:=t.aR++[tq]}).event _,m2.tx,m2.ca,hT,m2.op,m2.ox,m2.oc,m2.ct,m2.lk,m2.sq,m2.md,m2.sp,m2.oq,m2.tq⟩
theorem LU {l:List (Nat×lg)} {F:Nat} {x:lg} (h:l.lookup F=some x):(F,x)∈l:=by
 induction l with
 |nil=>cases h
 |cons a l ih=>
  obtain⟨k,y⟩:=a;rw[List.lookup_cons] at h
  by_cases Y:F=k
  . subst Y
    simp at h;subst h;exact iG
  . rw[beq_false_of_ne Y] at h
    exact nV _ (ih h)
theorem TX.cell (h:TX N L n t) {F:Nat} {x:lg} (hx:t.cell F=some x):LZ N x.own∧LZ N x.old∧(x.there=true->LK N x.own):=h.ce _ (LU hx)
theorem Mid.tell (m:Mid N L n s d D τ t c) (F v:Nat):Mid N L n s d D (τ.tell s F v) t {c with r:={c.r with aL:=c.r.aL++[(F,v)]}}:=by
 unfold St.tell;rw[m.ec];exact m.aM _ ⟨rfl,rfl⟩
theorem xk {F:Nat} (k:Nat):∀ (F:Nat) (τ:St) (c:dY),Mid N L n s d D τ t c->c.over=false->c.r.over=0->c.op.hi<=63->F<=64->c.r.aL.length<=F->Out N L n s d D (iH s k τ F):=by
 induction k with
 |zero=>
  intro F τ c m ho hr hh Y hp;refine⟨t,c,m,ho,hr,?_⟩;show xh N L t c (.fin (τ.c s).r);rw[m.ec];exact⟨hr,fq hp Y⟩
 |succ k ih=>
  intro F τ c m ho hr hh Y hp;unfold iH;rw[m.ec,m.et]
  split
  . exact⟨t,c,m,ho,hr,hr,fq hp Y⟩
  . rename_i hlt
    split
    . rename_i x hx
      cases hth:x.there with
      |true=>
       simp only[if_true];exact ih (F+1) _ _ (m.tell F (τ.valueOf x.own)) ho hr hh (by omega) (by simp;omega)
      |false=>
       simp only[Bool.false_eq_true,if_false];exact ih (F+1) _ c m ho hr hh (by omega) (by omega)
    . exact⟨t,c,m,ho,hr,by show F<64;omega,rfl,hh,hp⟩
theorem Bq (t:bL):∀ (k i:Nat),i<=t.reads.length->t.need k i<=t.reads.length∧(k=t.reads.length - i->t.need k i<t.reads.length->t.need k i<t.reads.length)
 |0,i,h=>⟨h,fun _ h=>h⟩
 |k+1,i,h=>by
  refine⟨?_,fun _ h=>h⟩;unfold bL.need
  split
  . rename_i hh
    exact (Bq t k (i+1) (by omega)).1
  . exact h
theorem DX {i:Nat} (h:i<=t.aR.length):xh N L t c (jT t i):=by
 unfold jT
 split
 . trivial
 . show i<t.aR.length;omega
theorem DY {α:Type} {l:List α} {i:Nat} {a:α} (h:i<l.length):l.getD i a∈l:=by
 rw[mM,ym h];exact List.getElem_mem _
theorem zL (h:TX N L n t) {i:Nat} (hi:i<=t.reads.length):xh N L t c (dH t i):=by
 unfold dH;simp only;have h1:=(Bq t (t.reads.length - i) i hi).1
 split
 . exact DX (zz _)
 . exact⟨h.rd _ (DY (by omega)),by show t.need _ i<_;omega⟩
theorem xm (m:Mid N L n s d D τ t c) (ho:c.over=false) (hr:c.r.over=0) {x:Bool} {G head:Nat} (hl:LZ N G) (Y:c.op.F<64) (hx:if x=true then (t.cell c.op.F).isSome=true else t.cell c.op.F=none∧LZ N head):Out N L n s d D (τ.slot s x G head):=by
 unfold St.slot
 by_cases h0:G=0
 . rw[aW h0]
   have m2:=m.take;have ht:=m.sh.take.2
   cases e:τ.take with
   |mk UR o=>
    rw[e] at m2 ht
    cases o with
    |none=>exact⟨t,c,m2,ho,hr,trivial⟩
    |some l=>
     refine⟨t,c,m2.vals _ _,ho,hr,ht l rfl,Y,hx⟩
 . rw[bu h0]
   exact⟨t,c,m.vals _ _,ho,hr,hl.of h0,Y,hx⟩
theorem zM (m:Mid N L n s d D τ t c) (ho:c.over=false) (hr:c.r.over=0) {G head at_:Nat} (hl:LZ N G) (hh:LZ N head) (ha:LZ N at_) (Y:c.op.F<64) (hx:t.cell c.op.F=none):Out N L n s d D (τ.jk s G head at_):=by
 unfold St.jk
 split
 . exact xm m ho hr hl Y (by simp only[Bool.false_eq_true,if_false];exact⟨hx,hh⟩)
 . rename_i h0
   exact⟨t,c,m,ho,hr,hl,hh,ha.of h0,hx,Y⟩
theorem DZ (m:Mid N L n s d D τ t c) (ho:c.over=false) (hr:c.r.over=0) (G:Nat):Out N L (n+1) s d D (τ.lost G):=by
 unfold St.lost
 split
 . exact⟨t,c,m.give G,ho,hr,trivial⟩
 . exact⟨t,c,m.mono (pQ _),ho,hr,trivial⟩
theorem oL {t t2:bL} {h:dR} (hh:iA t c h) (e1:t2.cells=t.cells) (e2:t2.reads=t.reads):iA t2 c h:=by
 refine⟨hh.1,?_⟩;have:=hh.2
 cases e:h.thn with
 |get=>trivial
 |scan k=>rw[e] at this;exact this
 |change=>rw[e] at this;exact⟨this.1,by unfold bL.cell;rw[e1];exact this.2⟩
 |judge i l=>rw[e] at this;show i<t2.reads.length;rw[e2];exact this
theorem vN (m:Mid N L n s d D τ t c) (ho:c.over=false) (hr:c.r.over=0) {h:dR} (hh:iA t c h) {G:Nat} (hl:LZ N G):Out N L (n+1) s d D (τ.thn s h G):=by
 obtain⟨F,at_,thn⟩:=h;obtain⟨Y,h2⟩:=hh;unfold St.thn
 cases thn with
 |get=>
  simp only;have m2:=m.read F G (G !=0) Y
  split
  . exact⟨_,c,m2,ho,hr,rfl,zz _⟩
  . exact⟨_,c,m2,ho,hr,rfl,zz _⟩
 |scan k=>
  obtain⟨rfl,hhi,hp⟩:=h2;simp only at Y hp hhi ⊢;have m2:=m.read k G false Y;unfold St.scan
  by_cases h0:G=0
  . rw[aW h0]
    exact xk (F:=0) _ (k+1) _ c m2 ho hr hhi (by omega) (by omega)
  . rw[bu h0]
    exact xk (F:=0) _ (k+1) _ _ (m2.tell k ((τ.read s k G false).valueOf G)) ho hr hhi (by omega) (by simp;omega)
 |change=>
  obtain⟨hkk,hx⟩:=h2;simp only at Y hkk ⊢;rw[m.ec];have hk2:c.op.F<64:=by omega
  split
  . exact⟨_,c,m.read _ G false hk2,ho,hr,rfl,zz _⟩
  split
  . exact⟨_,c,m.read _ G false hk2,ho,hr,rfl,zz _⟩
  split
  . exact⟨t,c,m.mono (pQ _),ho,hr,.inl rfl,hx,hk2⟩
  . rename_i h0
    exact⟨t,c,m.mono (pQ _),ho,hr,hl.of h0,hx,hk2⟩
 |judge i l=>
  simp only at h2 ⊢
  split
  . exact⟨t,c,m.mono (pQ _),ho,hr,trivial⟩
  . refine⟨t,c,m.mono (pQ _),ho,hr,?_⟩
    show xh N L t c (dH (τ.t s) (i+1));rw[m.et];exact zL m.t1 h2
theorem zN (m:Mid N L n s d D τ t c) (ho:c.over=false) (hr:c.r.over=0) {h:dR} (hh:iA t c h) {G:Nat} (hl:LZ N G):Out N L (n+1) s d D (τ.visit s h G):=by
 unfold St.visit
 split
 . exact vN m ho hr hh (.inl rfl)
 . rename_i h0
   exact⟨t,c,m.mono (pQ _),ho,hr,hh,hl.of h0⟩
theorem D5 (m:Mid N L n s d D τ t c) (ho:c.over=false) (hr:c.r.over=0) {h:dR} (hh:iA t c h) {G mb:Nat} (hl:LK N G) (hm:mb<=2000):Out N L (n+1) s d D (τ.seen s h G mb):=by
 unfold St.seen
 split
 . exact vN m ho hr hh (.inr hl)
 . exact⟨t,c,m.mono (pQ _),ho,hr,hh,hl,hm⟩
end
section
variable {N L n s d:Nat} {D τ:St} {t:bL} {c:dY}
def lF (N L n s d:Nat) (D:St) (r:St×Option K):Prop:=match r.2 with
 |some k=>Out N L n s d D (r.1,k)
 |none=>∃ t c,Mid N L n s d D r.1 t c∧c.over=true∧c.waits=false∧((c.r.over=0∧c.r.aL.length<=64)∨((c.r.over=3∨c.r.over=4)∧c.r.aL=[]))
theorem Out.ran {r:St×K} (h:Out N L n s d D r):lF N L n s d D (r.1,some r.2):=h
theorem qg {w:Nat} (h:Wd w) (e:(rd w).1=2):(rd w).2<=2000:=h e
theorem Sh.slot (h:Sh N L n τ) {l:Nat} (hl:LK N l):Wd (τ.word (af l 0))∧Wd (τ.word (af l 1))∧LZ N (τ.word (af l 2)):=by
 have:=hl.ag;refine⟨(h.wd _).V ?_ ?_ ?_,(h.wd _).V ?_ ?_ ?_,(h.wd _).nx ?_ ?_ ?_⟩<;>(unfold af;omega)
theorem Sh.head (h:Sh N L n τ) {F:Nat} (Y:F<64):LZ N (τ.word (9+F)):=(h.wd _).hd (by omega) (by omega)
theorem O4 {x:Nat} (h:x<=1099511627776):Wd x:=by
 unfold Wd rd tm;rw[aW h];intro e;cases e
theorem tC:Wd ever:=by unfold Wd;decide
theorem O5 (h:TX N L n t):rd (mine t)=(2,t.id):=by
 have:=h.i1;have:=h.i2;unfold rd mine tm ever nW;rw[bu (by omega),bu (by omega),aW (by omega)];simp
theorem nR (h:TX N L n t):Wd (mine t):=by
 intro _;rw[O5 h];exact h.i2
theorem nS (h:TX N L n t):mine t<18446744073709551616:=by have:=h.i2;unfold mine nW;omega
theorem iZ {l w v:Nat} (hl:LK N l) (hw:w<2) (hv:v<18446744073709551616) (hd:Wd v):BZ N L (af l w) v:=by
 have:=hl.ag;refine⟨hv,fun e=>?_,fun _ e=>?_,fun _ e=>?_,fun _ _ e=>?_,fun _ _ _=>hd⟩<;>(unfold af at e;omega)
theorem pE {l v:Nat} (hl:LK N l) (hv:LZ N v):BZ N L (af l 2) v:=by
 have:=hl.ag;refine⟨?_,fun e=>?_,fun _ e=>?_,fun _ e=>?_,fun _ _ _=>hv,fun _ _ e=>?_⟩
 . rcases hv with rfl|h
   . decide
   . exact h.u
 all_goals (unfold af at e;omega)
theorem pF {F v:Nat} (Y:F<64) (hv:LZ N v):BZ N L (9+F) v:=by
 refine⟨?_,fun e=>?_,fun _ e=>?_,fun _ _=>hv,fun e _ _=>?_,fun e _ _=>?_⟩
 . rcases hv with rfl|h
   . decide
   . exact h.u
 all_goals omega
theorem oM {id v:Nat} (hv:v<18446744073709551616):BZ N L (73+N*3+id) v:=by
 refine⟨hv,fun e=>?_,fun _ e=>?_,fun _ e=>?_,fun _ e _=>?_,fun _ e _=>?_⟩<;>omega
theorem Sh.place (h:Sh N L n τ) (id:Nat):τ.place id=73+N*3+id:=by unfold St.place;rw[h.sl]
theorem Ho (s8:s<8) {v:Nat} (hv:v<=L) (hl:L<=1099511627776):BZ N L (1+s) v:=by
 refine⟨by omega,fun e=>?_,fun _ _=>hv,fun e _=>?_,fun e _ _=>?_,fun e _ _=>?_⟩<;>omega
theorem xq {x id:Nat} (hx:x<=L) (hl:L<=1099511627776) (hid:id<=2000):BZ N L 0 (aV x id):=by
 refine⟨by unfold aV;omega,fun _=>⟨by unfold aj aV;omega,by unfold aZ aV;omega⟩,fun e _=>?_,fun e _=>?_,fun e _ _=>?_,fun e _ _=>?_⟩<;>omega
theorem qK {x e:Nat} (hx:x<8) (he:e<=1099511627776):pack x e<18446744073709551616:=by unfold pack;omega
theorem Mid.dw (m:Mid N L n s d D τ t c) {w:Nat} (hw:aj w<=L):Mid N L n s (d+1) D (τ.dw w) t c:=by
 unfold St.dw;rw[m.sh.place];exact m.cB (oM (qK (by omega) (fq hw m.sh.l1)))
theorem qL (h:TX N L n t) (F:Nat) (x:lg) (h1:LZ N x.own) (h2:LZ N x.old) (h3:x.there=true->LK N x.own):TX N L (n+1) {t with cells:=(F,x)::t.cells,keys:=t.keys++[F]}:=by
 refine⟨h.i1,h.i2,h.op,h.bg,h.en,fun p hp=>?_,fun k Y=>?_,?_,h.rd,Nat.le_succ_of_le h.rn,h.bd,Nat.le_succ_of_le h.bn⟩
 . have hp':p∈(F,x)::t.cells:=hp
   rw[List.mem_cons] at hp'
   rcases hp' with rfl|hp'
   . exact⟨h1,h2,h3⟩
   . exact h.ce p hp'
 . have hk':k∈t.keys++[F]:=Y
   show ∃ y,((F,x)::t.cells).lookup k=some y;rw[List.lookup_cons]
   by_cases e:k=F
   . subst e;exact⟨x,by simp⟩
   . rw[beq_false_of_ne e]
     rw[List.mem_append] at hk'
     rcases hk' with hk'|hk'
     . exact h.ky k hk'
     . simp at hk';exact absurd hk' e
 . show (t.keys++[F]).length<=_
   rw[jb];have:=h.kn;simp;omega
theorem oU (l:List (Nat×lg)) (F:Nat) (x:lg) (k:Nat):(upd l F x).lookup k=(l.lookup k).map (fun y=>if k=F then x else y):=by
 unfold upd
 induction l with
 |nil=>rfl
 |cons a l ih=>
  obtain⟨k1,y⟩:=a
  by_cases h1:k1=F
  . subst h1
    simp only[List.map_cons,if_true];rw[List.lookup_cons,List.lookup_cons]
    by_cases h2:k=k1
    . subst h2;simp
    . rw[beq_false_of_ne h2];simpa using ih
  . simp only[List.map_cons,bu h1]
    rw[List.lookup_cons,List.lookup_cons]
    by_cases h2:k=k1
    . subst h2;simp[h1]
    . rw[beq_false_of_ne h2];simpa using ih
theorem qM (h:TX N L n t) (F:Nat) (x:lg) (h1:LZ N x.own) (h2:LZ N x.old) (h3:x.there=true->LK N x.own):TX N L n {t with cells:=upd t.cells F x}:=by
 refine⟨h.i1,h.i2,h.op,h.bg,h.en,fun p hp=>?_,fun k Y=>?_,h.kn,h.rd,h.rn,h.bd,h.bn⟩
 . have hp':p∈upd t.cells F x:=hp
   unfold upd at hp';rw[List.mem_map] at hp';obtain⟨q,hq,rfl⟩:=hp'
   split
   . exact⟨h1,h2,h3⟩
   . exact h.ce q hq
 . obtain⟨y,hy⟩:=h.ky k Y
   show ∃ y,(upd t.cells F x).lookup k=some y;rw[oU,show t.cells.lookup k=some y from hy];exact⟨_,rfl⟩
theorem Br (h:TX N L n t) (hl:L<=1099511627776) (D:St):∀ x∈fG D t,BZ N L x.at_ x.new∧73<=x.at_∧x.at_<73+N*3:=by
 intro x hx;unfold fG at hx;rw[List.mem_flatMap] at hx;obtain⟨F,Y,hx⟩:=hx;obtain⟨y,hy⟩:=h.ky F Y;rw[hy] at hx;simp only[Option.getD_some] at hx;obtain⟨ho,hd,-⟩:=h.cell hy;have he:t.ay<18446744073709551616:=by have:=h.en;omega
 have hw:Wd t.ay:=O4 (fq h.en hl);have hin:∀ l w,LK N l->w<2->BZ N L (af l w) t.ay∧73<=af l w∧af l w<73+N*3:=by
  intro l w hl hw2;have:=hl.ag;exact⟨iZ hl hw2 he hw,by unfold af;omega,by unfold af;omega⟩
 rw[List.mem_append] at hx
 rcases hx with hx|hx
 . split at hx
   . rename_i h0
     rw[List.mem_cons] at hx
     rcases hx with rfl|hx
     . exact hin _ _ (ho.of h0) (by omega)
     . split at hx
       . cases hx
       . simp at hx;subst hx;exact hin _ _ (ho.of h0) (by omega)
   . cases hx
 . split at hx
   . rename_i h0
     simp at hx;subst hx;exact hin _ _ (hd.of h0) (by omega)
   . cases hx
theorem D6 (h:TX N L n t) (D:St):∀ x∈gD D t,BZ N L x.at_ x.new∧73<=x.at_∧x.at_<73+N*3:=by
 intro x hx;unfold gD at hx;rw[List.mem_flatMap] at hx;obtain⟨F,Y,hx⟩:=hx;obtain⟨y,hy⟩:=h.ky F Y;rw[hy] at hx;simp only[Option.getD_some] at hx;obtain⟨ho,hd,-⟩:=h.cell hy
 split at hx
 . rename_i h0
   simp at hx;subst hx;have:=(hd.of h0).ag;refine⟨iZ (hd.of h0) (by omega) (by show ever<_;decide) tC,?_,?_⟩
   . show 73<=af y.old 1;unfold af;omega
   . show af y.old 1<73+N*3;unfold af;omega
 . cases hx
theorem O6 (h:TX N L n t):TX N L n {t with over:=true}:=⟨h.i1,h.i2,h.op,h.bg,h.en,h.ce,h.ky,h.kn,h.rd,h.rn,h.bd,h.bn⟩
theorem Mid.dI (m:Mid N L n s d D τ t c) (e:Ev) (he:e.res.aL.length<=64:=by exact zz _):∃ t2,Mid N L (n+1) s d D (τ.dI s e) t2 c∧t2={t with over:=true}:=by
 unfold St.dI;rw[m.et]
 split
 . rename_i ho
   refine⟨t,m.mono (pQ _),?_⟩
   cases t;simp at ho;simp[ho]
 . exact⟨_,(m.bM (O6 m.t1)).event e,rfl⟩
set_option maxHeartbeats 1600000 in
theorem Bu (m:Mid N L n s 0 D D t c) (ho:c.over=false) (hr:c.r.over=0) (hw:c.waits=false) {k:K} (Y:xh N L t c k):∃ d,d<=1∧lF N L (n+2) s d D (D.run s k):=by
 have mt:=m.tick;have et:=m.et;have ec:=m.ec
 cases k with
 |fin r=>
  refine⟨0,by omega,t,_,(m.mono (by omega)).aM {D.c s with r:=r,over:=true} ⟨by rw[ec],by rw[ec]⟩,rfl,by rw[ec];exact hw,.inl Y⟩
 |start h=>exact⟨1,by omega,(zN mt ho hr Y (m.sh.head Y.1)).mono (by omega)⟩
 |visit h G=>
  obtain⟨hh,hl⟩:=Y;refine⟨1,by omega,t,c,mt.mono (by omega),ho,hr,?_⟩;show xh N L t c (D.tick.kK s h G _);unfold St.kK
  split
  . exact⟨hh,hl,zz _⟩
  split
  . exact⟨hh,hl⟩
  . rename_i h2
    exact⟨hh,hl,qg (m.sh.slot hl).1 (Classical.byContradiction fun e=>h2 (.inl e))⟩
 |older h G=>
  obtain⟨hh,hl⟩:=Y;exact⟨1,by omega,(zN mt ho hr hh (m.sh.slot hl).2.2).mono (by omega)⟩
 |maker h G id=>
  obtain⟨hh,hl,hid⟩:=Y;refine⟨1,by omega,?_⟩;simp only[St.run]
  split
  . exact⟨t,c,mt.mono (by omega),ho,hr,hh,hl⟩
  split
  . exact⟨t,c,mt.mono (by omega),ho,hr,hh,hl,hid⟩
  . exact⟨t,c,mt.mono (by omega),ho,hr,hh,hl,zz _⟩
 |ended h G mb=>
  obtain⟨hh,hl,hm⟩:=Y;refine⟨1,by omega,?_⟩;simp only[St.run]
  split
  . exact⟨t,c,mt.mono (by omega),ho,hr,hh,hl⟩
  split
  . exact (D5 mt ho hr hh hl hm).mono (by omega)
  . rename_i h2
    exact⟨t,c,mt.mono (by omega),ho,hr,hh,hl,hm,qg (m.sh.slot hl).2.1 (Classical.byContradiction fun e=>h2 (.inl e))⟩
 |ik h G mb id=>
  obtain⟨hh,hl,hm,hid⟩:=Y;refine⟨1,by omega,?_⟩;simp only[St.run]
  split
  . exact (D5 mt ho hr hh hl hm).mono (by omega)
  split
  . obtain⟨t2,m2,e1,e2,-⟩:=mt.bind id hid
    exact⟨t2,c,m2.mono (by omega),ho,hr,oL hh e1 e2,hl⟩
  . exact⟨t,c,mt.mono (by omega),ho,hr,hh,hl⟩
 |seen h G mb=>
  obtain⟨hh,hl,hm⟩:=Y;refine⟨1,by omega,?_⟩;simp only[St.run]
  split
  . exact⟨t,c,mt.mono (by omega),ho,hr,hh⟩
  . split
    . obtain⟨t2,m2,e1,e2,-⟩:=mt.bind mb hm
      exact (vN m2 ho hr (oL hh e1 e2) (.inr hl)).mono (by omega)
    . exact (vN mt ho hr hh (.inr hl)).mono (by omega)
 |again en=>
  obtain⟨h1,h2,x,hx,hxo⟩:=Y;refine⟨1,by omega,?_⟩;have ex:D.x s c.op.F=x:=by unfold St.x;rw[et,hx];rfl
  simp only[St.run,ec,ex];have m1:=m.put (iZ (w:=1) hxo (by omega) h1 h2);have m2:=m1.bM (qM m1.t1 c.op.F {x with there:=(c.op.kind !=4)} (m.t1.cell hx).1 (m.t1.cell hx).2.1 (fun _=>hxo));have e3:((D.put (af x.own 1) en).c s).op.kind=c.op.kind:=by rw[m1.ec]
  have e4:((D.put (af x.own 1) en).gI s c.op.F {x with there:=(c.op.kind !=4)})=((D.put (af x.own 1) en).bM s {t with cells:=upd t.cells c.op.F {x with there:=(c.op.kind !=4)}}):=by unfold St.gI;rw[m1.et]
  rw[e3,e4]
  split
  . exact⟨_,c,(m2.mono (by omega)).vals _ _,ho,hr,rfl,zz _⟩
  . exact⟨_,c,m2.mono (by omega),ho,hr,rfl,zz _⟩
 |own G=>
  obtain⟨hl,hx,hkk⟩:=Y;refine⟨1,by omega,?_⟩;simp only[St.run]
  split
  . exact⟨t,c,mt.mono (by omega),ho,hr,hl,hx,hkk⟩
  split
  . rename_i h2
    exact⟨t,c,mt.mono (by omega),ho,hr,hl,hx,hkk,qg (m.sh.slot hl).2.1 h2⟩
  . exact⟨t,c,mt.mono (by omega),ho,hr,trivial⟩
 |iw G w id=>
  obtain⟨hl,hx,hkk,hid⟩:=Y;refine⟨1,by omega,?_⟩;simp only[St.run]
  split
  . exact⟨t,c,mt.mono (by omega),ho,hr,trivial⟩
  . exact⟨t,c,mt.mono (by omega),ho,hr,hl,hx,hkk⟩
 |claim G w=>
  obtain⟨hl,hx,hkk⟩:=Y;refine⟨1,by omega,?_⟩;have m1:=m.cB (o:=w) (iZ (L:=L) (w:=1) hl (by omega) (nS m.t1) (nR m.t1));simp only[St.run,et]
  split
  . exact⟨t,c,m1.mono (by omega),ho,hr,hl,hx,hkk⟩
  . have m2:=(m1.mono (pQ n)).bM (qL m1.t1 c.op.F ⟨0,G,false⟩ (.inl rfl) (.inr hl) (by simp))
    have e1:(D.cB (af G 1) w (mine t)).bS s ((D.cB (af G 1) w (mine t)).c s).op.F ⟨0,G,false⟩=(D.cB (af G 1) w (mine t)).bM s {t with cells:=(c.op.F,⟨0,G,false⟩)::t.cells,keys:=t.keys++[c.op.F]}:=by
     unfold St.bS;rw[m1.et,m1.ec]
    rw[e1,m2.ec]
    split
    . exact⟨_,c,m2.mono (by omega),ho,hr,rfl,zz _⟩
    . refine (xm (m2.mono (by omega)) ho hr (.inl rfl) hkk ?_).ran
      simp only[if_true];show (List.lookup c.op.F ((c.op.F,_)::t.cells)).isSome=true;rw[List.lookup_cons];simp
 |fresh G=>
  obtain⟨hl,hx,hkk⟩:=Y;refine⟨1,by omega,?_⟩;simp only[St.run,ec];exact (zM (mt.mono (by omega)) ho hr hl (m.sh.head hkk) (m.sh.head hkk) hkk hx).ran
 |next G head at_=>
  obtain⟨hl,hh,ha,hx,hkk⟩:=Y;refine⟨1,by omega,?_⟩;simp only[St.run];exact (zM (mt.mono (by omega)) ho hr hl hh (m.sh.slot ha).2.2 hkk hx).ran
 |free G head at_=>
  obtain⟨hl,hh,ha,hx,hkk⟩:=Y;refine⟨1,by omega,?_⟩;simp only[St.run]
  split
  . exact⟨t,c,mt.mono (by omega),ho,hr,hl,hh,ha,hx,hkk⟩
  split
  . exact ((DZ mt ho hr G).mono (by omega)).ran
  . rename_i h2
    exact⟨t,c,mt.mono (by omega),ho,hr,hl,hh,ha,qg (m.sh.slot ha).1 (Classical.byContradiction fun e=>h2 e),hx,hkk⟩
 |dX G head at_ id=>
  obtain⟨hl,hh,ha,hid,hx,hkk⟩:=Y;refine⟨1,by omega,?_⟩;simp only[St.run]
  split
  . exact⟨t,c,mt.mono (by omega),ho,hr,hl,hh,ha,hx,hkk⟩
  . exact ((DZ mt ho hr G).mono (by omega)).ran
 |fJ x G head=>
  obtain⟨hl,hkk,hx⟩:=Y;refine⟨1,by omega,?_⟩;simp only[St.run,et];exact⟨t,c,(m.put (iZ hl (by omega) (nS m.t1) (nR m.t1))).mono (by omega),ho,hr,hl,hkk,hx⟩
 |eU x G head=>
  obtain⟨hl,hkk,hx⟩:=Y;refine⟨1,by omega,?_⟩;simp only[St.run];refine⟨t,c,(m.put (iZ hl (by omega) (by decide) tC)).mono (by omega),ho,hr,?_⟩
  cases x with
  |true=>exact⟨hl,hx,hkk⟩
  |false=>
   simp only[Bool.false_eq_true,if_false] at hx;exact⟨hl,hx.2,hx.1,hkk⟩
 |push G head=>
  obtain⟨hl,hh,hx,hkk⟩:=Y;refine⟨1,by omega,t,c,(m.put (pE hl hh)).mono (by omega),ho,hr,hl,hh,hx,hkk⟩
 |dV G head=>
  obtain⟨hl,hh,hx,hkk⟩:=Y;refine⟨1,by omega,?_⟩;have m1:=m.cB (o:=head) (pF (L:=L) hkk (.inr hl));simp only[St.run,ec]
  split
  . exact⟨t,c,m1.mono (by omega),ho,hr,.inr hl,hx,hkk⟩
  . have m2:=(m1.mono (pQ n)).bM (qL m1.t1 c.op.F ⟨G,0,true⟩ (.inr hl) (.inl rfl) (fun _=>hl))
    have e1:(D.cB (9+c.op.F) head G).bS s c.op.F ⟨G,0,true⟩=(D.cB (9+c.op.F) head G).bM s {t with cells:=(c.op.F,⟨G,0,true⟩)::t.cells,keys:=t.keys++[c.op.F]}:=by
     unfold St.bS;rw[m1.et]
    rw[e1];exact⟨_,c,m2.mono (by omega),ho,hr,rfl,zz _⟩
 |over G=>
  obtain⟨hl,hx,hkk⟩:=Y;refine⟨1,by omega,t,c,mt.mono (by omega),ho,hr,?_⟩;rw[ec];exact⟨hl,m.sh.head hkk,hx,hkk⟩
 |iB G head=>
  obtain⟨hl,hh,hx,hkk⟩:=Y;exact⟨1,by omega,t,c,(m.put (pE hl hh)).mono (by omega),ho,hr,hl,hh,hx,hkk⟩
 |eu G head=>
  obtain⟨hl,hh,hx,hkk⟩:=Y;refine⟨1,by omega,?_⟩;have m1:=m.cB (o:=head) (pF (L:=L) hkk (.inr hl));simp only[St.run,ec]
  split
  . exact⟨t,c,m1.mono (by omega),ho,hr,hl,hx,hkk⟩
  . obtain⟨x,XL⟩:=ou.1 hx
    have ex:(D.cB (9+c.op.F) head G).x s c.op.F=x:=by unfold St.x;rw[m1.et,XL];rfl
    rw[ex];have m2:=m1.bM (qM m1.t1 c.op.F {x with own:=G,there:=true} (.inr hl) (m.t1.cell XL).2.1 (fun _=>hl));have e4:((D.cB (9+c.op.F) head G).gI s c.op.F {x with own:=G,there:=true})=((D.cB (9+c.op.F) head G).bM s {t with cells:=upd t.cells c.op.F {x with own:=G,there:=true}}):=by unfold St.gI;rw[m1.et]
    rw[e4];exact⟨_,c,m2.mono (by omega),ho,hr,rfl,zz _⟩
 |draw=>
  refine⟨1,by omega,?_⟩;have hc:=(m.sh.wd 0).ck rfl;simp only[St.run]
  split
  . exact⟨t,c,mt.mono (by omega),ho,hr,trivial⟩
  . rename_i hlim
    have hlt:aj (D.word 0)<L:=by have:=m.sh.lm;have h2:¬ D.limit<=aj (D.word 0):=hlim;omega
    split
    . exact⟨t,c,mt.mono (by omega),ho,hr,hlt⟩
    . exact⟨t,c,mt.mono (by omega),ho,hr,(m.sh.wd 0).u,hc.2,hlt,hc.1⟩
 |eX w now=>
  obtain⟨h1,h2,h3,h4⟩:=Y;exact⟨1,by omega,t,c,(m.dw h4).mono (by omega),ho,hr,h3⟩
 |turn w now=>
  refine⟨1,by omega,?_⟩;have hn:now<L:=Y;have m1:=m.cB (o:=w) (xq (N:=N) (show now+1<=L by omega) m.sh.l1 m.t1.i2);simp only[St.run,et]
  split
  . exact⟨t,c,m1.mono (by omega),ho,hr,trivial⟩
  . have h:=m1.t1
    rw[m1.et];have m2:=(m1.bM (t2:={t with ay:=now+1}) ⟨h.i1,h.i2,h.op,h.bg,by show now+1<=L;omega,h.ce,h.ky,h.kn,h.rd,h.rn,h.bd,h.bn⟩).event {kind:=3,t:=t.id,n:=now+1};exact⟨_,c,m2.mono (show n+1<=n+2 by omega),ho,hr,trivial⟩
 |eB=>
  refine⟨1,by omega,?_⟩;have he:aj (aV t.ay t.id)=t.ay:=by unfold aj aV;have:=m.t1.i2;omega
  have m1:=m.dw (w:=aV t.ay t.id) (by rw[he];exact m.t1.en);simp only[St.run,et];refine⟨t,c,m1.mono (by omega),ho,hr,?_⟩;rw[m1.et];exact zL m1.t1 (zz _)
 |wait i=>
  refine⟨1,by omega,?_⟩;have hi:i<t.aR.length:=Y;simp only[St.run]
  split
  . refine⟨t,c,mt.mono (by omega),ho,hr,?_⟩
    show xh N L t c (jT (D.tick.t s) (i+1));rw[mt.et];exact DX hi
  split
  . exact⟨t,c,mt.mono (by omega),ho,hr,trivial⟩
  . rw[mt.ec]
    exact⟨t,_,(mt.mono (by omega)).aM {c with waits:=true} ⟨rfl,rfl⟩,ho,hr,hi⟩
 |cZ=>
  refine⟨1,by omega,?_⟩;simp only[St.run,et];have m1:=m.put (i:=D.place t.id) (v:=pack 3 t.ay) (by rw[m.sh.place];exact oM (qK (by omega) (fq m.t1.en m.sh.l1)));obtain⟨t2,m2,rfl⟩:=m1.dI {kind:=5,t:=t.id};exact⟨_,c,m2.mono (by omega),ho,hr,by simp,rfl,Br m.t1 m.sh.l1 _⟩
 |abort e aI=>
  refine⟨1,by omega,?_⟩;simp only[St.run,et];have m1:=m.put (i:=D.place t.id) (v:=pack 4 t.ay) (by rw[m.sh.place];exact oM (qK (by omega) (fq m.t1.en m.sh.l1)));obtain⟨t2,m2,rfl⟩:=m1.dI {kind:=6,t:=t.id,res:={aI:=aI}};exact⟨_,c,m2.mono (by omega),ho,hr,by simp,rfl,D6 m.t1 _⟩
 |turns l r=>
  obtain⟨h1,h2,h3⟩:=Y
  cases l with
  |nil=>
   refine⟨1,by omega,?_⟩;have m1:=m.put (i:=1+s) (v:=0) (Ho m.s8 (zz _) m.sh.l1);exact⟨t,_,(m1.mono (by omega)).aM {(D.put (1+s) 0).c s with r:=r,over:=true} ⟨by rw[m1.ec],by rw[m1.ec]⟩,rfl,by rw[m1.ec];exact hw,.inr ⟨h1,h2⟩⟩
  |cons x l=>
   refine⟨1,by omega,?_⟩;have hx:=(h3 x iG).1;simp only[St.run];refine⟨t,c,?_,ho,hr,h1,h2,fun y hy=>h3 y (nV _ hy)⟩
   split
   . exact (m.put hx).mono (by omega)
   . exact (m.cB hx).mono (by omega)
end
section
variable {N L n s d:Nat} {D τ:St} {t:bL} {c:dY}
theorem jW {l:Nat} (h:LK N l) (hs:D.aG=N):vl D l=true:=by
 unfold vl;rw[hs];simp only[gT,zd];exact⟨⟨h.lo,h.hi⟩,h.u⟩
theorem qz {l:Nat} (h:LZ N l) (hs:D.aG=N):JL D l=true:=by
 unfold JL
 rcases h with rfl|h
 . rfl
 . rw[jW h hs];simp
theorem iT (h:Sh N L n D) (i:Nat):small D i=true:=by unfold small;simp only[zd];exact (h.wd i).u
theorem lL (h:Sh N L n D) (hn:n<999990):lH D=true:=by
 unfold lH;simp only[gT,zd,List.all_eq_true];have h1:=h.bP.len;have h2:=h.n1;have h3:=h.wn;refine⟨⟨⟨by omega,fun i hi=>by rw[h.sl];exact (h.bP.fr i hi).1⟩,fun p hp=>?_⟩,by omega⟩;obtain⟨i,hi,rfl⟩:=List.mem_iff_getElem.1 hp;have:=h.bP.tg i;rw[mM,ym hi] at this;exact this
theorem zO (h:TX N L n t) (hs:D.aG=N):ug D t=true:=by
 unfold ug;rw[List.all_eq_true];intro k Y;obtain⟨x,hx⟩:=h.ky k Y;rw[hx];simp only[gT];exact⟨qz (h.cell hx).1 hs,qz (h.cell hx).2.1 hs⟩
theorem zP (h:TX N L n t) (hs:D.aG=N):uh D t=true:=by
 unfold uh;rw[List.all_eq_true];intro p hp;have:=(h.ce p hp).2.2
 cases e:p.2.there with
 |false=>rfl
 |true=>rw[e] at this;simp[jW (this rfl) hs]
theorem oN (m:Mid N L n s d D τ t c) (hn:n<999990) {h:dR} (hh:iA t c h) {G:Nat} (hl:LZ N G):sP τ s h G=true:=by
 obtain⟨F,at_,thn⟩:=h;obtain⟨Y,h2⟩:=hh;unfold sP;rw[m.et,m.ec];have hr:=m.t1.rn;rw[show decide (t.reads.length<1000000)=true by simp;omega,Bool.true_and]
 cases thn with
 |get=>exact qz hl m.sh.sl
 |scan k=>
  obtain⟨rfl,hhi,hp⟩:=h2;simp only at Y hp;simp only[gT,zd];exact⟨⟨⟨⟨⟨trivial,qz hl m.sh.sl⟩,by omega⟩,hhi⟩,zP m.t1 m.sh.sl⟩,by omega⟩
 |change=>simp only[zd];exact h2.1
 |judge i l=>simp only[zd];exact h2
set_option maxHeartbeats 800000 in
theorem Rl (m:Mid N L n s 0 D D t c) (hct:D.count<3000000000000000000) (hn:n<999980) {k:K} (Y:xh N L t c k):QT D s k=true:=by
 have mt:=m.tick;have sl:=m.sh.sl;have h1:=m.t1.i1;have h2:=m.t1.i2;have Z:=m.t1.bn;have hky:=m.t1.kn;have htl:=m.sh.tl;have hrn:=m.t1.rn;have hen:=m.t1.en;have hl1:=m.sh.l1;have LV:qH D s=true:=by
  unfold qH;rw[m.et];simp only[gT,zd];omega
 unfold QT;rw[show decide (D.count<3000000000000000000)=true by simpa using hct,Bool.true_and];rw[m.et,m.ec]
 cases k with
 |fin r=>rfl
 |start h=>simp only[gT,zd,pR];exact⟨Y.1,.inr (oN m (by omega) Y (.inl rfl))⟩
 |visit h G=>simp only[gT];exact⟨jW Y.2 sl,iT m.sh _⟩
 |older h G=>simp only[gT,pR];exact⟨jW Y.2 sl,.inr (oN m (by omega) Y.1 (.inl rfl))⟩
 |maker h G id=>simp only[gT,zd];exact⟨Y.2.2,iT m.sh _⟩
 |ended h G mb=>simp only[gT,pR];exact⟨⟨jW Y.2.1 sl,iT m.sh _⟩,.inr (oN m (by omega) Y.1 (.inr Y.2.1))⟩
 |ik h G mb id=>simp only[gT,zd,pR];exact⟨⟨⟨Y.2.2.2,iT m.sh _⟩,LV⟩,.inr (oN m (by omega) Y.1 (.inr Y.2.1))⟩
 |seen h G mb=>
  simp only[gT,zd];refine⟨⟨⟨Y.2.2,iT m.sh _⟩,LV⟩,?_⟩
  split
  . obtain⟨t2,m2,e1,e2,-⟩:=mt.bind mb Y.2.2
    exact oN m2 (by omega) (oL Y.1 e1 e2) (.inr Y.2.1)
  . exact oN mt (by omega) Y.1 (.inr Y.2.1)
 |again e=>
  obtain⟨-,-,x,hx,hxo⟩:=Y;simp only[hx];exact jW hxo sl
 |own G=>simp only[gT];exact⟨jW Y.1 sl,iT m.sh _⟩
 |iw G w id=>simp only[gT,zd];exact⟨Y.2.2.2,iT m.sh _⟩
 |claim G w=>simp only[gT,zd];exact⟨⟨⟨⟨⟨jW Y.1 sl,h1⟩,by omega⟩,by rw[Y.2.1];rfl⟩,by omega⟩,lL m.sh (by omega)⟩
 |fresh G=>simp only[gT,zd];exact⟨⟨qz Y.1 sl,Y.2.2⟩,lL m.sh (by omega)⟩
 |next G head at_=>simp only[gT,zd];exact⟨⟨qz Y.1 sl,jW Y.2.2.1 sl⟩,lL m.sh (by omega)⟩
 |free G head at_=>simp only[gT,zd];exact⟨⟨⟨qz Y.1 sl,jW Y.2.2.1 sl⟩,lL m.sh (by omega)⟩,iT m.sh _⟩
 |dX G head at_ id=>simp only[gT,zd];exact⟨⟨⟨qz Y.1 sl,Y.2.2.2.1⟩,iT m.sh _⟩,lL m.sh (by omega)⟩
 |fJ x G head=>simp only[gT,zd];exact⟨⟨jW Y.1 sl,h1⟩,by omega⟩
 |eU x G head=>exact jW Y.1 sl
 |push G head=>exact jW Y.1 sl
 |dV G head=>simp only[gT,zd];exact⟨⟨Y.2.2.2,by rw[Y.2.2.1];rfl⟩,by omega⟩
 |over G=>simp only[zd];exact Y.2.2
 |iB G head=>exact jW Y.1 sl
 |eu G head=>simp only[gT,zd];exact⟨Y.2.2.2,Y.2.2.1⟩
 |draw=>simp only[zd];exact (m.sh.wd 0).u
 |eX w now=>simp only[gT,zd];exact⟨Y.1,Y.2.1⟩
 |turn w now=>
  have hn:now<L:=Y;simp only[gT,zd];omega
 |eB=>simp only[gT,zd];omega
 |wait i=>
  have hi:i<t.aR.length:=Y;simp only[ym hi];simp only[gT,zd];exact⟨⟨m.t1.bd _ (List.getElem_mem _),iT m.sh _⟩,by omega⟩
 |cZ=>simp only[gT,zd];exact⟨⟨⟨⟨by omega,h2⟩,by omega⟩,zO m.t1 sl⟩,by omega⟩
 |abort e r=>simp only[gT,zd];exact⟨⟨⟨⟨⟨by omega,h1⟩,h2⟩,by omega⟩,zO m.t1 sl⟩,by omega⟩
 |turns l r=>
  cases l with
  |nil=>rfl
  |cons x l=>
   have:=Y.2.2 x iG;simp only[zd];rw[m.sh.nw];omega
theorem zQ (h1:D.calls.length=8) (h2:τ.calls.length=8) (h:∀ q,q≠s->τ.calls.getD q none=D.calls.getD q none):jV D τ s=true:=by
 unfold jV;simp only[gT,zd,List.all_eq_true,pR,beq_iff_eq];refine⟨⟨h1,h2⟩,fun q _=>?_⟩
 by_cases e:q=s
 . exact .inl e
 . exact .inr (h q e)
theorem Sh.same {bF:St} (h:Sh N L n D) (e1:bF.aG=D.aG) (e2:bF.limit=D.limit) (e3:bF.words=D.words) (e4:bF.tags=D.tags) (e5:bF.values=D.values) (e6:bF.ai.length=8) (e7:bF.calls.length=8) (e8:bF.aB=D.aB) (e9:bF.free=D.free) (e10:bF.listed=D.listed) (e11:bF.jh=D.jh) (e12:bF.aQ=D.aQ):Sh N L n bF:=by
 refine⟨by rw[e1];exact h.sl,by rw[e2];exact h.lm,h.n1,h.l1,by rw[e3];exact h.nw,by rw[e4];exact h.nt,by rw[e5];exact h.nv,e6,e7,by rw[e8];exact h.md,fun i=>?_,⟨fun i hi=>?_,by rw[e9];exact h.bP.nd,fun i=>by rw[e4];exact h.bP.tg i,fun e=>?_,fun e=>?_,fun e=>?_⟩,by rw[e11];exact h.wn,by rw[e12];exact h.tl,by rw[e12];exact h.tp⟩
 . have:bF.word i=D.word i:=by unfold St.word;rw[e3]
   rw[this];exact h.wd i
 . rw[e9] at hi;rw[e4];exact h.bP.fr i hi
 . rw[e10] at e;rw[e9,e4];exact h.bP.ls e
 . rw[e10] at e;rw[e11,e4];exact h.bP.w0 e
 . rw[e10] at e;rw[e9,e11,e4];exact h.bP.sm e
theorem SX.same {n':Nat} {bF:St} (h:SX N L n D) (e1:bF.sw=D.sw) (e2:bF.low=D.low) (e3:bF.cut=D.cut) (e4:bF.cuts=D.cuts) (e5:D.seq<=bF.seq) (hn:n<=n'):SX N L n' bF:=
 ⟨fun x hx=>h.so x (by rw[<-e1];exact hx),by rw[e2];exact h.lo,fun p hp=>by rw[e3] at hp;exact⟨(h.cu p hp).1,fq (h.cu p hp).2 e5⟩,by rw[e3,e4];exact h.cn,by rw[e4];exact fq h.cb hn⟩
theorem WF.mid (h:WF N L n D) (hs:s<8) {c:dY} (hc:D.calls.getD s none=some c):∃ t k,c.k=some k∧D.ai.getD s none=some t∧Mid N L n s 0 (D.aM s {c with waits:=false}) (D.aM s {c with waits:=false}) t {c with waits:=false}∧c.over=false∧c.r.over=0∧xh N L t {c with waits:=false} k:=by
 obtain⟨t,ht,hC⟩:=h.cx s c hc;obtain⟨k,Y,hkk⟩:=hC.k;refine⟨t,k,Y,ht,⟨hs,h.sh.aM s _,ht,?_,h.tx s t ht,hC.op,fun _ _=>rfl,fun _ _=>rfl,rfl,rfl,rfl,rfl,⟨rfl,rfl,rfl,rfl⟩,?_,?_⟩,hC.ov,hC.ro,?_⟩
 . show (D.calls.set s _).getD s none=_
   rw[aS _ _ _ _ (by rw[h.sh.c8];exact hs),aW rfl]
 . unfold St.c
   rw[show (D.aM s {c with waits:=false}).calls.getD s none=_ from aS _ _ _ _ (by rw[h.sh.c8];exact hs),aW rfl];exact⟨rfl,rfl⟩
 . show t.id=((D.ai.getD s none).getD default).id
   rw[ht];rfl
 . cases k<;>exact hkk
theorem xu {k:K} {aK:St} {ok:Option K} {c2:dY} (ht:D.ai.getD s none=some t) (hc:D.calls.getD s none=some c) (Y:c.k=some k) (e:(D.aM s {c with waits:=false}).run s k=(aK,ok)) (hc2:aK.calls.getD s none=some c2)
 (hh:QT (D.aM s {c with waits:=false}) s k=true∧jV D aK s=true∧D.count<=aK.count∧aK.count - D.count<1000000∧aK.aA<1000000000000000000∧D.count<3000000000000000000):ig D s=lJ D s aK ok c2:=by
 unfold ig;rw[ht,hc];simp only
 split
 . rename_i k' hk'
   rw[Y] at hk';obtain rfl:=zj hk';rw[e];simp only;rw[hc2];simp only;rw[aW hh]
 . rename_i h
   rw[Y] at h
   cases h
theorem WF.step (h:WF N L n D) (hs:s<8) {c:dY} (hc:D.calls.getD s none=some c) (hct:D.count<2999999999999999999) (hlk:D.aA<999999999999999999) (hn:n<999970):
 ∃ bF kd r,ig D s=some (bF,kd,r)∧WF N L (n+3) bF∧D.count<=bF.count∧bF.count<=D.count+1∧D.aA<=bF.aA∧bF.aA<=D.aA+1∧bF.seq=D.seq∧bF.aB=D.aB∧1<=kd∧kd<=3
  ∧(kd=3∨∃ c',bF.calls.getD s none=some c'∧c'.waits=decide (kd=2))∧(kd=3->bF.calls.getD s none=none∧(r.over=0↔(bF.ai.getD s none).isSome=true)∧(r.over=0∨r.over=3∨r.over=4))∧(kd≠3->r={})
  ∧(∀ q,q≠s->bF.ai.getD q none=D.ai.getD q none∧bF.calls.getD q none=D.calls.getD q none)∧((bF.ai.getD s none).isSome=true∨kd=3)∧(∀ u u2,D.ai.getD s none=some u->bF.ai.getD s none=some u2->u2.id=u.id):=by
 obtain⟨t,k,Y,ht,m,ho,hr,hkk⟩:=h.mid hs hc;have V9:=Rl m (show D.count<_ by omega) (by omega) hkk;obtain⟨d,hd,vF⟩:=Bu m ho hr rfl hkk
 cases e:(D.aM s {c with waits:=false}).run s k with
 |mk aK ok=>
 rw[e] at vF;have hrest:∀ t2 c2,Mid N L (n+2) s d (D.aM s {c with waits:=false}) aK t2 c2->QT (D.aM s {c with waits:=false}) s k=true∧jV D aK s=true∧D.count<=aK.count∧aK.count - D.count<1000000∧aK.aA<1000000000000000000∧D.count<3000000000000000000:=by
  intro t2 c2 m2;have e1:aK.count=D.count+d:=m2.ct;have e2:aK.aA=D.aA:=m2.lk;refine⟨V9,zQ h.sh.c8 m2.sh.c8 (fun q hq=>?_),by omega,by omega,by omega,by omega⟩;rw[m2.oc q hq];show (D.calls.set s _).getD q none=_;rw[aS _ _ _ _ (by rw[h.sh.c8];exact hs),bu hq]
 have hoc:∀ t2 c2,Mid N L (n+2) s d (D.aM s {c with waits:=false}) aK t2 c2->∀ q,q≠s->aK.ai.getD q none=D.ai.getD q none∧aK.calls.getD q none=D.calls.getD q none:=by
  intro t2 c2 m2 q hq;refine⟨m2.ox q hq,?_⟩;rw[m2.oc q hq];show (D.calls.set s _).getD q none=_;rw[aS _ _ _ _ (by rw[h.sh.c8];exact hs),bu hq]
 have hT:∀ t2 c2,Mid N L (n+2) s d (D.aM s {c with waits:=false}) aK t2 c2->∀ q u,aK.ai.getD q none=some u->TX N L (n+3) u:=by
  intro t2 c2 m2 q u hu
  by_cases hq:q=s
  . subst hq
    rw[m2.tx] at hu;obtain rfl:=zj hu;exact m2.t1.mono (by omega)
  . rw[m2.ox q hq] at hu
    exact (h.tx q u hu).mono (by omega)
 have We:∀ t2 c2,Mid N L (n+2) s d (D.aM s {c with waits:=false}) aK t2 c2->∀ q u,aK.ai.getD q none=some u->u.id<=aK.aB:=by
  intro t2 c2 m2 q u hu;rw[m2.md]
  by_cases hq:q=s
  . subst hq
    rw[m2.tx] at hu;obtain rfl:=zj hu;rw[m2.tq,<-m.tq];exact h.ti q t ht
  . rw[m2.ox q hq] at hu
    exact h.ti q u hu
 have hC:∀ t2 c2,Mid N L (n+2) s d (D.aM s {c with waits:=false}) aK t2 c2->∀ q u,q≠s->aK.calls.getD q none=some u->∃ v,aK.ai.getD q none=some v∧CX N L v u:=by
  intro t2 c2 m2 q u hq hu;rw[(hoc t2 c2 m2 q hq).2] at hu;obtain⟨v,hv,hx⟩:=h.cx q u hu;exact⟨v,by rw[(hoc t2 c2 m2 q hq).1];exact hv,hx⟩
 have hS:∀ t2 c2,Mid N L (n+2) s d (D.aM s {c with waits:=false}) aK t2 c2->∀ {MP:St},MP.sw=aK.sw->MP.low=aK.low->MP.cut=aK.cut->MP.cuts=aK.cuts->MP.seq=aK.seq->SX N L (n+3) MP:=by
  intro t2 c2 m2 MP e1 e2 e3 e4 e5;obtain⟨f1,f2,f3,f4⟩:=m2.sp;exact h.sx.same (e1.trans f1) (e2.trans f2) (e3.trans f3) (e4.trans f4) (by rw[e5,m2.sq];exact zr _) (by omega)
 have hid:∀ t2 c2,Mid N L (n+2) s d (D.aM s {c with waits:=false}) aK t2 c2->∀ u u2,D.ai.getD s none=some u->aK.ai.getD s none=some u2->u2.id=u.id:=by
  intro t2 c2 m2 u u2 hu hu2;rw[m2.tx] at hu2;obtain rfl:=zj hu2;rw[ht] at hu;obtain rfl:=zj hu;rw[m2.tq,<-m.tq]
 cases ok with
 |some k'=>
  obtain⟨t2,c2,m2,h1,h2,h3⟩:=vF;simp only at m2;have e1:aK.count=D.count+d:=m2.ct;have e2:aK.aA=D.aA:=m2.lk;have uz:s<aK.calls.length:=by rw[m2.sh.c8];exact hs
  rw[xu ht hc Y e m2.ca (hrest t2 c2 m2)];unfold lJ;simp only;rw[aW h1];refine⟨_,_,_,rfl,⟨?_,?_,?_,?_,?_⟩,?_,?_,?_,?_,?_,?_,?_,?_,?_,?_,?_,?_,?_,?_⟩
  . exact ((m2.sh.aM s {c2 with k:=some k'}).mono (by omega)).same rfl rfl rfl rfl rfl (by show (aK.ai).length=8;exact m2.sh.t8) (by show (aK.calls.set s _).length=8;rw[nD];exact m2.sh.c8) rfl rfl rfl rfl rfl
  . exact hS t2 c2 m2 rfl rfl rfl rfl rfl
  . exact hT t2 c2 m2
  . exact We t2 c2 m2
  . intro q u hu
    change (aK.calls.set s _).getD q none=some u at hu;rw[aS _ _ _ _ uz] at hu
    split at hu
    . rename_i hq
      subst hq;obtain rfl:=zj hu;exact⟨t2,m2.tx,m2.op,h1,h2,k',rfl,by cases k'<;>exact h3⟩
    . rename_i hq
      exact hC t2 c2 m2 q u hq hu
  . show D.count<=aK.count;omega
  . show aK.count<=D.count+1;omega
  . show D.aA<=aK.aA+(aK.count - D.count);omega
  . show aK.aA+(aK.count - D.count)<=D.aA+1;omega
  . exact m2.sq
  . exact m2.md
  . cases c2.waits<;>simp
  . cases c2.waits<;>simp
  . right
    refine⟨{c2 with k:=some k'},?_,?_⟩
    . show (aK.calls.set s _).getD s none=_
      rw[aS _ _ _ _ uz,aW rfl]
    . show c2.waits=_
      cases c2.waits<;>simp
  . intro h3;cases hw:c2.waits<;>simp[hw] at h3
  . intro _;rfl
  . intro q hq
    refine⟨(hoc t2 c2 m2 q hq).1,?_⟩;show (aK.calls.set s _).getD q none=_;rw[aS _ _ _ _ uz,bu hq];exact (hoc t2 c2 m2 q hq).2
  . left
    show (aK.ai.getD s none).isSome=true;rw[m2.tx];rfl
  . exact hid t2 c2 m2
 |none=>
  obtain⟨t2,c2,m2,h1,h2,h3⟩:=vF;simp only at m2;have e1:aK.count=D.count+d:=m2.ct;have e2:aK.aA=D.aA:=m2.lk;have uz:s<aK.calls.length:=by rw[m2.sh.c8];exact hs
  have vC:s<aK.ai.length:=by rw[m2.sh.t8];exact hs
  have htl:=m2.sh.tl;rw[xu ht hc Y e m2.ca (hrest t2 c2 m2)];unfold lJ;simp only;have hp:c2.r.aL.length<=1000000:=by
   rcases h3 with h3|h3
   . have:=h3.2;omega
   . rw[h3.2];simp
  rw[aW ⟨h2,h1,hp⟩];have zR:∀ x q,((aK.calls.set s x).set s none).getD q none=if q=s then none else aK.calls.getD q none:=by
   intro x q;rw[List.set_set,aS _ _ _ _ uz]
  rcases h3 with ⟨h3,h4⟩|⟨h3,h4⟩
  . rw[aW h3,m2.tx]
    simp only;rw[aW (by omega)];refine⟨_,_,_,rfl,⟨?_,?_,?_,?_,?_⟩,?_,?_,?_,?_,?_,?_,?_,?_,?_,?_,?_,?_,?_,?_⟩
    . refine Sh.event (n:=n+2) ?_ _ h4
      exact (m2.sh.aM s {c2 with k:=none}).same rfl rfl rfl rfl rfl (by show (aK.ai).length=8;exact m2.sh.t8) (by show ((aK.calls.set s _).set s none).length=8;rw[nD,nD];exact m2.sh.c8) rfl rfl rfl rfl rfl
    . exact hS t2 c2 m2 rfl rfl rfl rfl rfl
    . exact hT t2 c2 m2
    . exact We t2 c2 m2
    . intro q u hu
      change ((aK.calls.set s _).set s none).getD q none=some u at hu;rw[zR] at hu
      split at hu
      . cases hu
      . rename_i hq
        exact hC t2 c2 m2 q u hq hu
    . show D.count<=aK.count;omega
    . show aK.count<=D.count+1;omega
    . show D.aA<=aK.aA+(aK.count - D.count);omega
    . show aK.aA+(aK.count - D.count)<=D.aA+1;omega
    . exact m2.sq
    . exact m2.md
    . omega
    . omega
    . exact .inl rfl
    . intro _
      refine⟨?_,?_⟩
      . show ((aK.calls.set s _).set s none).getD s none=none
        rw[zR,aW rfl]
      . refine⟨⟨fun _=>?_,fun _=>h3⟩,.inl h3⟩
        show (aK.ai.getD s none).isSome=true;rw[m2.tx];rfl
    . intro e;exact absurd rfl e
    . intro q hq
      refine⟨(hoc t2 c2 m2 q hq).1,?_⟩;show ((aK.calls.set s _).set s none).getD q none=_;rw[zR,bu hq];exact (hoc t2 c2 m2 q hq).2
    . exact .inr rfl
    . exact hid t2 c2 m2
  . have h3':c2.r.over≠0:=by omega
    rw[bu h3',aW h4];refine⟨_,_,_,rfl,⟨?_,?_,?_,?_,?_⟩,?_,?_,?_,?_,?_,?_,?_,?_,?_,?_,?_,?_,?_,?_⟩
    . exact ((m2.sh.aM s {c2 with k:=none}).mono (by omega)).same rfl rfl rfl rfl rfl (by show (aK.ai.set s none).length=8;rw[nD];exact m2.sh.t8) (by show ((aK.calls.set s _).set s none).length=8;rw[nD,nD];exact m2.sh.c8) rfl rfl rfl rfl rfl
    . exact hS t2 c2 m2 rfl rfl rfl rfl rfl
    . intro q u hu
      change (aK.ai.set s none).getD q none=some u at hu;rw[aS _ _ _ _ vC] at hu
      split at hu
      . cases hu
      . exact hT t2 c2 m2 q u hu
    . intro q u hu
      change (aK.ai.set s none).getD q none=some u at hu;rw[aS _ _ _ _ vC] at hu
      split at hu
      . cases hu
      . exact We t2 c2 m2 q u hu
    . intro q u hu
      change ((aK.calls.set s _).set s none).getD q none=some u at hu;rw[zR] at hu
      split at hu
      . cases hu
      . rename_i hq
        obtain⟨v,hv,hx⟩:=hC t2 c2 m2 q u hq hu;refine⟨v,?_,hx⟩;show (aK.ai.set s none).getD q none=some v;rw[aS _ _ _ _ vC,bu hq];exact hv
    . show D.count<=aK.count;omega
    . show aK.count<=D.count+1;omega
    . show D.aA<=aK.aA+(aK.count - D.count);omega
    . show aK.aA+(aK.count - D.count)<=D.aA+1;omega
    . exact m2.sq
    . exact m2.md
    . omega
    . omega
    . exact .inl rfl
    . intro _
      refine⟨?_,?_⟩
      . show ((aK.calls.set s _).set s none).getD s none=none
        rw[zR,aW rfl]
      . refine⟨⟨fun e=>absurd e h3',fun e=>?_⟩,.inr h3⟩
        change ((aK.ai.set s none).getD s none).isSome=true at e;rw[aS _ _ _ _ vC,aW rfl] at e
        cases e
    . intro e;exact absurd rfl e
    . intro q hq
      refine⟨?_,?_⟩
      . show (aK.ai.set s none).getD q none=_
        rw[aS _ _ _ _ vC,bu hq];exact (hoc t2 c2 m2 q hq).1
      . show ((aK.calls.set s _).set s none).getD q none=_
        rw[zR,bu hq];exact (hoc t2 c2 m2 q hq).2
    . exact .inr rfl
    . intro u u2 hu hu2
      change (aK.ai.set s none).getD s none=some u2 at hu2;rw[aS _ _ _ _ vC,aW rfl] at hu2
      cases hu2
end
section
variable {N L n s d:Nat} {D τ:St} {t:bL} {c:dY}
theorem xw {o:En.Op} (h:nX o=true):o.F<64∧o.hi<=63∧1<=o.kind∧o.kind<=7:=by
 obtain⟨k,F,hi,v⟩:=o;unfold nX at h;simp only at h
 split at h
 all_goals (try (simp only[gT,zd,beq_iff_eq] at h))
 all_goals (try (simp only;omega))
 cases h
theorem uA (m:Mid N L n s d D τ t c) (ho:c.over=false) (hr:c.r={}):Out N L n s d D (τ.first s):=by
 obtain⟨Y,hh,hk1,Zc⟩:=xw m.op;have hro:c.r.over=0:=by rw[hr]
 unfold St.first;rw[m.ec,m.et];simp only
 split
 . split
   . split
     . exact⟨t,c,m,ho,hro,rfl,zz _⟩
     . exact⟨t,c,m,ho,hro,rfl,zz _⟩
   . exact⟨t,c,m,ho,hro,Y,trivial⟩
 . unfold St.scan
   exact xk (F:=0) _ _ _ c m ho hro hh (by omega) (by rw[hr];simp)
 . exact⟨t,c,m,ho,hro,trivial⟩
 . exact⟨t,c,m,ho,hro,trivial⟩
 . split
   . rename_i x hx
     split
     . exact⟨t,c,m,ho,hro,rfl,zz _⟩
     split
     . exact⟨t,c,m,ho,hro,rfl,zz _⟩
     split
     . exact xm m ho hro (.inl rfl) Y (by simp only[if_true];rw[hx];rfl)
     . rename_i h0
       refine⟨t,c,m,ho,hro,?_,?_,x,hx,(m.t1.cell hx).1.of h0⟩
       . show (if c.op.kind=4 then mine t else ever)<_
         split
         . exact nS m.t1
         . decide
       . show Wd (if c.op.kind=4 then mine t else ever)
         split
         . exact nR m.t1
         . exact tC
   . rename_i hx
     exact⟨t,c,m,ho,hro,Y,rfl,hx⟩
theorem Gb (m:Mid N L n s d D τ t c) (hr:c.r={}) (hn:n<999980):nO τ s=true:=by
 obtain⟨Y,hh,hk1,Zc⟩:=xw m.op;have h1:=m.t1.i1;have h2:=m.t1.i2;have hw:nO.qI τ s=true:=by
  unfold nO.qI;rw[m.et,m.ec]
  split
  . rfl
  . simp only[gT,zd]
    exact⟨⟨h1,by omega⟩,lL m.sh (by omega)⟩
 unfold nO;rw[m.ec,m.et]
 split
 . rfl
 . rfl
 . split
   . rfl
   . rename_i x hx
     cases e:x.there with
     |false=>rfl
     |true=>simp[jW ((m.t1.cell hx).2.2 e) m.sh.sl]
 . simp only[gT,zd]
   exact⟨⟨⟨by omega,hh⟩,zP m.t1 m.sh.sl⟩,by rw[hr];simp⟩
 . exact hw
 . exact hw
 . exact hw
 . exfalso
   have h9:c.op.kind=1∨c.op.kind=2∨c.op.kind=3∨c.op.kind=4∨c.op.kind=5∨c.op.kind=6∨c.op.kind=7:=by omega
   rcases h9 with e|e|e|e|e|e|e<;>exact absurd e (by assumption)
def jD (o:En.Op) (t:bL):bL:=if gU o then t else {t with ops:=t.ops+1}
theorem WF.Rm (h:WF N L n D) (hs:s<8) {t:bL} (ht:D.ai.getD s none=some t) (o:En.Op) (ho:nX o=true) (hop:t.ops<12∨gU o=true):Mid N L n s 0 (cO D s o t) (cO D s o t) (jD o t) (gW o (D.seq+1)):=by
 have hT:=h.tx s t ht;have h8:s<D.calls.length:=by rw[h.sh.c8];exact hs
 have h8':s<D.ai.length:=by rw[h.sh.t8];exact hs
 unfold cO jD
 cases he:gU o with
 |true=>
  simp only[if_true];refine⟨hs,?_,ht,?_,hT,ho,fun _ _=>rfl,fun _ _=>rfl,rfl,rfl,rfl,rfl,⟨rfl,rfl,rfl,rfl⟩,?_,?_⟩
  . exact (h.sh.aM s (gW o (D.seq+1))).same rfl rfl rfl rfl rfl h.sh.t8 (by show (D.calls.set s _).length=8;rw[nD];exact h.sh.c8) rfl rfl rfl rfl rfl
  . show (D.calls.set s _).getD s none=_
    rw[aS _ _ _ _ h8,aW rfl]
  . unfold St.c
    rw[show (({D with seq:=D.seq+1}:St).aM s (gW o (D.seq+1))).calls.getD s none=_ from aS _ _ _ _ h8,aW rfl];exact⟨rfl,rfl⟩
  . show t.id=((D.ai.getD s none).getD default).id
    rw[ht];rfl
 |false=>
  simp only[Bool.false_eq_true,if_false];have h12:t.ops<12:=hop.resolve_right (by rw[he];simp);have JN:TX N L n {t with ops:=t.ops+1}:=⟨hT.i1,hT.i2,h12,hT.bg,hT.en,hT.ce,hT.ky,hT.kn,hT.rd,hT.rn,hT.bd,hT.bn⟩
  refine⟨hs,?_,?_,?_,JN,ho,fun _ _=>rfl,fun _ _=>rfl,rfl,rfl,rfl,rfl,⟨rfl,rfl,rfl,rfl⟩,?_,?_⟩
  . exact ((h.sh.bM s {t with ops:=t.ops+1}).aM s (gW o (D.seq+1))).same rfl rfl rfl rfl rfl (by show (D.ai.set s _).length=8;rw[nD];exact h.sh.t8) (by show (D.calls.set s _).length=8;rw[nD];exact h.sh.c8) rfl rfl rfl rfl rfl
  . show (D.ai.set s _).getD s none=_
    rw[aS _ _ _ _ h8',aW rfl]
  . show (D.calls.set s _).getD s none=_
    rw[aS _ _ _ _ h8,aW rfl]
  . unfold St.c
    rw[show (({(D.bM s {t with ops:=t.ops+1}) with seq:=D.seq+1}:St).aM s (gW o (D.seq+1))).calls.getD s none=_ from aS _ _ _ _ h8,aW rfl];exact⟨rfl,rfl⟩
  . show t.id=(((D.ai.set s (some {t with ops:=t.ops+1})).getD s none).getD default).id
    rw[aS _ _ _ _ h8',aW rfl];rfl
theorem uB (D:St) (s:Nat) (o:En.Op) (t:bL):(cO D s o t).count=D.count∧(cO D s o t).aA=D.aA∧(cO D s o t).seq=D.seq+1∧(cO D s o t).aB=D.aB∧(cO D s o t).sw=D.sw∧(cO D s o t).low=D.low∧(cO D s o t).cut=D.cut∧(cO D s o t).cuts=D.cuts∧(cO D s o t).aQ=D.aQ∧(cO D s o t).words=D.words:=by
 unfold cO;split<;>exact⟨rfl,rfl,rfl,rfl,rfl,rfl,rfl,rfl,rfl,rfl⟩
theorem zU (D:St) (s:Nat) (o:En.Op) (t:bL) (hs:s<D.calls.length) (hs2:s<D.ai.length) (q:Nat) (hq:q≠s):(cO D s o t).ai.getD q none=D.ai.getD q none∧(cO D s o t).calls.getD q none=D.calls.getD q none:=by
 unfold cO
 split
 . refine⟨rfl,?_⟩
   show (D.calls.set s _).getD q none=_;rw[aS _ _ _ _ hs,bu hq]
 . refine⟨?_,?_⟩
   . show (D.ai.set s _).getD q none=_
     rw[aS _ _ _ _ hs2,bu hq]
   . show (D.calls.set s _).getD q none=_
     rw[aS _ _ _ _ hs,bu hq]
theorem WF.kY (h:WF N L n D) (hs:s<8) {t:bL} (ht:D.ai.getD s none=some t) (hc:D.calls.getD s none=none) {o:En.Op} (ho:nX o=true) (hop:t.ops<12∨gU o=true) (BV:D.seq<3999999999999999999) (hn:n<999970):
 ∃ aC,jo D s o=some aC∧WF N L n aC∧aC.count=D.count∧aC.aA=D.aA∧aC.seq=D.seq+1∧aC.aB=D.aB∧(∃ c,aC.calls.getD s none=some c∧c.op=o)∧(aC.ai.getD s none).isSome=true
  ∧(∀ q,q≠s->aC.ai.getD q none=D.ai.getD q none∧aC.calls.getD q none=D.calls.getD q none)∧(∀ u,aC.ai.getD s none=some u->u.id=t.id):=by
 have m:=h.Rm hs ht o ho hop;obtain⟨f1,f2,f3,f4,f5,f6,f7,f8,f9,f10⟩:=uB D s o t;have fo:=zU D s o t (by rw[h.sh.c8];exact hs) (by rw[h.sh.t8];exact hs);have hf:=Gb m rfl (by omega);have hout:=uA m rfl rfl;have hops:=(h.tx s t ht).op;unfold jo;rw[ht];simp only;rw[aW ⟨ho,by rw[hc];rfl,hop.imp id (fun e=>⟨e,by omega⟩),by omega,by rw[h.sh.c8];exact hs,by rw[h.sh.t8];exact hs,hf⟩]
 cases e:(cO D s o t).first s with
 |mk eF k=>
 rw[e] at hout;obtain⟨t2,c2,m2,h1,h2,h3⟩:=hout;simp only at m2 h3 ⊢;rw[m2.ca];simp only;have hoc:∀ q,q≠s->eF.ai.getD q none=D.ai.getD q none∧eF.calls.getD q none=D.calls.getD q none:=fun q hq=>⟨(m2.ox q hq).trans (fo q hq).1,(m2.oc q hq).trans (fo q hq).2⟩
 rw[aW (zQ h.sh.c8 m2.sh.c8 (fun q hq=>(hoc q hq).2))];obtain⟨g1,g2,g3,g4⟩:=m2.sp;have uz:s<eF.calls.length:=by rw[m2.sh.c8];exact hs
 refine⟨_,rfl,⟨m2.sh.aM s _,?_,?_,?_,?_⟩,?_,?_,?_,?_,?_,?_,?_,?_⟩
 . exact h.sx.same (g1.trans f5) (g2.trans f6) (g3.trans f7) (g4.trans f8) (by show D.seq<=eF.seq;rw[m2.sq,f3];omega) (zr _)
 . intro q u hu
   change eF.ai.getD q none=some u at hu
   by_cases hq:q=s
   . subst hq
     rw[m2.tx] at hu;obtain rfl:=zj hu;exact m2.t1
   . rw[(hoc q hq).1] at hu
     exact h.tx q u hu
 . intro q u hu
   change eF.ai.getD q none=some u at hu;show u.id<=eF.aB;rw[m2.md,f4]
   by_cases hq:q=s
   . subst hq
     rw[m2.tx] at hu;obtain rfl:=zj hu;rw[m2.tq,<-m.tq];have:=h.ti q t ht;unfold jD
     split<;>exact this
   . rw[(hoc q hq).1] at hu
     exact h.ti q u hu
 . intro q u hu
   change (eF.calls.set s _).getD q none=some u at hu;rw[aS _ _ _ _ uz] at hu
   split at hu
   . rename_i hq
     subst hq;obtain rfl:=zj hu;exact⟨t2,m2.tx,m2.op,h1,h2,k,rfl,by cases k<;>exact h3⟩
   . rename_i hq
     rw[(hoc q hq).2] at hu;obtain⟨v,hv,hx⟩:=h.cx q u hu;exact⟨v,by show eF.ai.getD q none=_;rw[(hoc q hq).1];exact hv,hx⟩
 . show eF.count=_;have:=m2.ct;omega
 . show eF.aA=_;rw[m2.lk,f2]
 . show eF.seq=_;rw[m2.sq,f3]
 . show eF.aB=_;rw[m2.md,f4]
 . refine⟨{c2 with k:=some k},?_,?_⟩
   . show (eF.calls.set s _).getD s none=_
     rw[aS _ _ _ _ uz,aW rfl]
   . show c2.op=o
     rw[m2.oq.1,m.ec];rfl
 . show (eF.ai.getD s none).isSome=true
   rw[m2.tx];rfl
 . intro q hq
   refine⟨(hoc q hq).1,?_⟩;show (eF.calls.set s _).getD q none=_;rw[aS _ _ _ _ uz,bu hq];exact (hoc q hq).2
 . intro u hu
   change eF.ai.getD s none=some u at hu;rw[m2.tx] at hu;obtain rfl:=zj hu;rw[m2.tq,<-m.tq];unfold jD
   split<;>rfl
end
section
variable {N L n s d:Nat} {D τ:St} {t:bL} {c:dY}
theorem WF.new {N L:Nat} (h1:N<=256) (h2:L<=1099511627776):WF N L 0 (new N L):=by
 have e0:∀ (α:Type) (q:Nat),(List.replicate 8 (none:Option α)).getD q none=none:=fun α q=>by
  rw[mM,List.getElem?_replicate];split<;>rfl
 refine⟨⟨rfl,rfl,h1,h2,?_,?_,?_,rfl,rfl,zz _,fun i=>?_,⟨fun i hi=>(by cases hi),List.nodup_nil,fun i=>?_,fun _=>⟨rfl,fun i=>?_⟩,fun _=>⟨rfl,?_⟩,fun e=>(by cases e)⟩,zr _,zr _,fun e he=>(by cases he)⟩,⟨fun x hx=>(by cases hx),zz _,fun p hp=>(by cases hp),zr _,zr _⟩,fun s t ht=>?_,fun s t ht=>?_,fun s c hc=>?_⟩
 . show (List.replicate (73+N*3+2000+1) 0).length=_;rw[List.length_replicate]
 . show (List.replicate N (0,false)).length=N;rw[List.length_replicate]
 . show (List.replicate N (0,0)).length=N;rw[List.length_replicate]
 . have:(En.new N L).word i=0:=by
    show (List.replicate (73+N*3+2000+1) 0).getD i 0=0;rw[mM,List.getElem?_replicate];split<;>rfl
   rw[this];exact BZ.zero N L i
 . show ((List.replicate N (0,false)).getD i (0,false)).1<=65535
   rw[mM,List.getElem?_replicate];split<;>simp
 . show ((List.replicate N (0,false)).getD i (0,false)).2=false
   rw[mM,List.getElem?_replicate];split<;>rfl
 . show (List.replicate N (0,false)).countP (·.2)=0
   rw[List.countP_replicate];rfl
 . exact absurd ht (by rw[show (En.new N L).ai.getD s none=none from e0 _ s];simp)
 . exact absurd ht (by rw[show (En.new N L).ai.getD s none=none from e0 _ s];simp)
 . exact absurd hc (by rw[show (En.new N L).calls.getD s none=none from e0 _ s];simp)
theorem Sh.aB (h:Sh N L n D) (h2:D.aB<2000):Sh N L n {D with aB:=D.aB+1}:=
 ⟨h.sl,h.lm,h.n1,h.l1,h.nw,h.nt,h.nv,h.t8,h.c8,h2,h.wd,⟨h.bP.fr,h.bP.nd,h.bP.tg,h.bP.ls,h.bP.w0,h.bP.sm⟩,h.wn,h.tl,h.tp⟩
theorem LW (h:Sh N L n D) (hs:s<8) {aK:St} (h2:Sh N L n aK) (hm:aK.aB=D.aB) (hmd:D.aB<2000) (hlim:aj (D.word 0)<L) (ax:Nat):Sh N L (n+1) (bN D s ax aK):=by
 have hm2:Sh N L n {aK with aB:=D.aB+1}:=by
  have:=h2.aB (by rw[hm];exact hmd);rw[hm] at this;exact this
 unfold bN;refine Sh.event ?_ _;refine Sh.bM ?_ s _;refine Sh.put ?_ (Ho hs (by omega) h.l1);refine Sh.put ?_ ?_
 . exact hm2.cB (xq (by omega) h.l1 (by omega))
 . rw[h.place]
   exact oM (qK (by omega) (by omega))
theorem LX {id ax bg:Nat} (h1:1<=id) (h2:id<=2000) (h3:bg<=L):TX N L n (gB id ax bg):=
 ⟨h1,h2,zz _,h3,zz _,fun p hp=>(by cases hp),fun k Y=>(by cases Y),zz _,fun r hr=>(by cases hr),zz _,fun b Z=>(by cases Z),zz _⟩
theorem uC (D:St) (s ax:Nat) (aK:St):(bN D s ax aK).aA=aK.aA∧(bN D s ax aK).seq=aK.seq∧(bN D s ax aK).aB=D.aB+1∧(bN D s ax aK).sw=aK.sw∧(bN D s ax aK).low=aK.low∧(bN D s ax aK).cut=aK.cut∧(bN D s ax aK).cuts=aK.cuts∧(bN D s ax aK).calls=aK.calls∧(bN D s ax aK).ai=aK.ai.set s (some (gB (D.aB+1) ax (aj (D.word 0)+1)))∧(bN D s ax aK).count=aK.count+3:=by
 have e:∀ (τ:St) (i o v:Nat),(τ.cB i o v).aA=τ.aA∧(τ.cB i o v).seq=τ.seq∧(τ.cB i o v).aB=τ.aB∧(τ.cB i o v).sw=τ.sw∧(τ.cB i o v).low=τ.low∧(τ.cB i o v).cut=τ.cut∧(τ.cB i o v).cuts=τ.cuts∧(τ.cB i o v).calls=τ.calls∧(τ.cB i o v).ai=τ.ai∧(τ.cB i o v).count=τ.count+1:=by
  intro τ i o v;unfold St.cB;split<;>exact⟨rfl,rfl,rfl,rfl,rfl,rfl,rfl,rfl,rfl,rfl⟩
 obtain⟨e1,e2,e3,e4,e5,e6,e7,e8,e9,e10⟩:=e ({aK with aB:=D.aB+1}:St) 0 (D.word 0) (aV (aj (D.word 0)+1) 0);unfold bN;refine⟨e1,e2,e3,e4,e5,e6,e7,e8,?_,?_⟩
 . show (St.ai _).set s _=_
   show (({aK with aB:=D.aB+1}:St).cB 0 (D.word 0) (aV (aj (D.word 0)+1) 0)).ai.set s _=_;rw[e9]
 . show (({aK with aB:=D.aB+1}:St).cB 0 (D.word 0) (aV (aj (D.word 0)+1) 0)).count+1+1=_
   rw[e10]
theorem Rn (D:St) (w:Nat):(D.dw w).aA=D.aA∧(D.dw w).seq=D.seq∧(D.dw w).aB=D.aB∧(D.dw w).sw=D.sw∧(D.dw w).low=D.low∧(D.dw w).cut=D.cut∧(D.dw w).cuts=D.cuts∧(D.dw w).calls=D.calls∧(D.dw w).ai=D.ai∧(D.dw w).count=D.count+1:=by
 unfold St.dw St.cB;split<;>exact⟨rfl,rfl,rfl,rfl,rfl,rfl,rfl,rfl,rfl,rfl⟩
theorem Sh.dw (h:Sh N L n D) {w:Nat} (hw:aj w<=L):Sh N L n (D.dw w):=by
 unfold St.dw;rw[h.place];exact h.cB (oM (qK (by omega) (fq hw h.l1)))
theorem D7 (D:St) (i o v j:Nat):(D.cB i o v).word j=if D.word i=o∧j=i∧i<D.words.length then v else D.word j:=by
 unfold St.cB
 by_cases h:D.word i=o
 . rw[aW h,cz];simp[h]
 . rw[bu h];simp[h];rfl
theorem Bv (h:Sh N L n D) (hs:s<8) (ax:Nat) {aK:St} (h2:Sh N L n aK) (hw:aK.word 0=D.word 0):(bN D s ax aK).word 0=aV (aj (D.word 0)+1) 0:=by
 have hl:=h2.nw;unfold bN;show ((((({aK with aB:=D.aB+1}:St).cB 0 (D.word 0) (aV (aj (D.word 0)+1) 0)).put (D.place (D.aB+1)) (pack 1 0)).put (1+s) (aj (D.word 0)+1))).word 0=_;rw[cz,bu (by omega),cz,bu (by rw[h.place];omega),D7,aW ⟨hw,rfl,by show 0<aK.words.length;omega⟩]
theorem Gc (h:Sh N L n D) (w:Nat):(D.dw w).word 0=D.word 0:=by
 unfold St.dw;rw[D7,bu (by rw[h.place];omega)]
theorem WF.aJ (h:WF N L n D) (hs:s<8) (ht:D.ai.getD s none=none) {ax:Nat} (hl1:1<=ax) (hl3:ax<=3) (hmd:D.aB<2000) (hlim:aj (D.word 0)<D.limit) (hct:D.count<2999999999999999999) (hn:n<999970):
 ∃ aC,kU D s ax=some (aC,D.aB+1)∧WF N L (n+1) aC∧D.count<=aC.count∧aC.count<=D.count+5∧aC.aA=D.aA∧aC.seq=D.seq∧aC.aB=D.aB+1∧aC.calls=D.calls∧(aC.ai.getD s none)=some (gB (D.aB+1) ax (aj (D.word 0)+1))
  ∧(∀ q,q≠s->aC.ai.getD q none=D.ai.getD q none)∧aC.word 0=aV (aj (D.word 0)+1) 0:=by
 have Uh:aj (D.word 0)<L:=by rw[<-h.sh.lm];exact hlim
 have hl:=h.sh.l1;have hck:=(h.sh.wd 0).ck rfl;have hcn:D.calls.getD s none=none:=by
  cases e:D.calls.getD s none with
  |none=>rfl
  |some c=>
   obtain⟨t,ht2,-⟩:=h.cx s c e;rw[ht] at ht2;cases ht2
 have htl:=h.sh.tl;unfold kU;rw[aW ⟨hl1,hl3,by rw[ht];rfl,by rw[hcn];rfl,hmd,(h.sh.wd 0).u,by omega,hlim,by omega,by omega⟩];have F:∀ aK:St,Sh N L n aK->aK.word 0=D.word 0->aK.aA=D.aA->aK.seq=D.seq->aK.aB=D.aB->aK.sw=D.sw->aK.low=D.low->aK.cut=D.cut->aK.cuts=D.cuts->aK.calls=D.calls->aK.ai=D.ai->D.count<=aK.count->aK.count<=D.count+2->
  WF N L (n+1) (bN D s ax aK)∧D.count<=(bN D s ax aK).count∧(bN D s ax aK).count<=D.count+5∧(bN D s ax aK).aA=D.aA∧(bN D s ax aK).seq=D.seq∧(bN D s ax aK).aB=D.aB+1∧(bN D s ax aK).calls=D.calls∧((bN D s ax aK).ai.getD s none)=some (gB (D.aB+1) ax (aj (D.word 0)+1))
  ∧(∀ q,q≠s->(bN D s ax aK).ai.getD q none=D.ai.getD q none)∧(bN D s ax aK).word 0=aV (aj (D.word 0)+1) 0:=by
  intro aK hS2 hw0 g1 g2 g3 g4 g5 g6 g7 g8 g9 g10 g11;obtain⟨f1,f2,f3,f4,f5,f6,f7,f8,f9,f10⟩:=uC D s ax aK;have vC:s<D.ai.length:=by rw[h.sh.t8];exact hs
  have Ui:∀ q,(bN D s ax aK).ai.getD q none=if q=s then some (gB (D.aB+1) ax (aj (D.word 0)+1)) else D.ai.getD q none:=by
   intro q;rw[f9,g9,aS _ _ _ _ vC]
  refine⟨⟨LW h.sh hs hS2 g3 hmd Uh ax,?_,?_,?_,?_⟩,by omega,by omega,f1.trans g1,f2.trans g2,f3,f8.trans g8,by rw[Ui,aW rfl],fun q hq=>by rw[Ui,bu hq],Bv h.sh hs ax hS2 hw0⟩
  . exact h.sx.same (f4.trans g4) (f5.trans g5) (f6.trans g6) (f7.trans g7) (by rw[f2,g2];exact zr _) (by omega)
  . intro q u hu
    rw[Ui] at hu
    split at hu
    . obtain rfl:=zj hu
      exact LX (by omega) (by omega) (by omega)
    . exact (h.tx q u hu).mono (by omega)
  . intro q u hu
    rw[Ui] at hu;rw[f3]
    split at hu
    . obtain rfl:=zj hu
      exact zr _
    . exact Nat.le_succ_of_le (h.ti q u hu)
  . intro q u hu
    rw[f8,g8] at hu;obtain⟨v,hv,hx⟩:=h.cx q u hu;refine⟨v,?_,hx⟩;rw[Ui,bu (by rintro rfl;rw[hcn] at hu;cases hu)];exact hv
 split
 . obtain⟨k1,k2⟩:=F D.tick h.sh.tick rfl rfl rfl rfl rfl rfl rfl rfl rfl rfl (by show D.count<=D.count+1;omega) (by show D.count+1<=_;omega)
   exact⟨_,rfl,k1,k2⟩
 . rw[aW hck.2]
   obtain⟨e1,e2,e3,e4,e5,e6,e7,e8,e9,e10⟩:=Rn D.tick (D.word 0);have Zd:(D.tick.dw (D.word 0)).count=D.count+1+1:=e10;obtain⟨k1,k2⟩:=F (D.tick.dw (D.word 0)) (h.sh.tick.dw hck.1) (Gc h.sh.tick _) e1 e2 e3 e4 e5 e6 e7 e8 e9 (by omega) (by omega);exact⟨_,rfl,k1,k2⟩
theorem xx {F:Nat}:∀ x,mG F=some x->Ga N x:=by
 intro x hx;unfold mG at hx
 split at hx
 . cases hx
 . obtain rfl:=zj hx
   show F<=63;omega
theorem qN {F ak G:Nat} (Y:F<=63) (ha:LZ N ak) (hl:LZ N G):∀ x,iK F ak G=some x->Ga N x:=by
 intro x hx;unfold iK at hx
 split at hx
 . exact xx x hx
 . rename_i h0
   obtain rfl:=zj hx;exact⟨Y,ha,hl.of h0⟩
theorem WF.aH (h:WF N L n D) {x:S} (hx:Ga N x):WF N L (n+1) (D.aH x).1:=by
 have F:∀ bF:St,Sh N L n bF->(∀ y,bF.sw=some y->Ga N y)->bF.low<=L->((bF.cut=D.cut∧bF.cuts=D.cuts)∨(∃ l,LK N l∧bF.cut=D.cut++[(l,D.seq)]∧bF.cuts=D.cuts+1))->bF.seq=D.seq->bF.ai=D.ai->bF.calls=D.calls->bF.aB=D.aB->WF N L (n+1) bF:=by
  intro bF hS h1 h2 h3 h4 h5 h6 h7;refine⟨hS.mono (pQ _),⟨h1,h2,?_,?_,?_⟩,fun s t ht=>?_,fun s t ht=>?_,fun s c hc=>?_⟩
  . rcases h3 with ⟨e,-⟩|⟨l,hl,e,-⟩
    . rw[e,h4];exact h.sx.cu
    . rw[e,h4]
      intro p hp;rw[List.mem_append] at hp
      rcases hp with hp|hp
      . exact h.sx.cu p hp
      . simp at hp;subst hp;exact⟨hl,zr _⟩
  . have:=h.sx.cn
    rcases h3 with ⟨e,e2⟩|⟨l,hl,e,e2⟩
    . rw[e,e2];exact this
    . rw[e,e2];simp;exact this
  . have:=h.sx.cb
    rcases h3 with ⟨e,e2⟩|⟨l,hl,e,e2⟩<;>omega
  . rw[h5] at ht;exact (h.tx s t ht).mono (pQ _)
  . rw[h5] at ht;rw[h7];exact h.ti s t ht
  . rw[h6] at hc;rw[h5];exact h.cx s c hc
 have hlo:=h.sx.lo;have O7:∀ (τ:St) (x:Option S) (l:Nat),Sh N L n τ->Sh N L n {τ with sw:=x,low:=l}:=fun τ x l h=>⟨h.sl,h.lm,h.n1,h.l1,h.nw,h.nt,h.nv,h.t8,h.c8,h.md,h.wd,⟨h.bP.fr,h.bP.nd,h.bP.tg,h.bP.ls,h.bP.w0,h.bP.sm⟩,h.wn,h.tl,h.tp⟩
 have XM:∀ (τ:St) (x:Option S) (c:List (Nat×Nat)) (k:Nat),Sh N L n τ->Sh N L n {τ with cut:=c,cuts:=k,sw:=x}:=fun τ x c k h=>⟨h.sl,h.lm,h.n1,h.l1,h.nw,h.nt,h.nv,h.t8,h.c8,h.md,h.wd,⟨h.bP.fr,h.bP.nd,h.bP.tg,h.bP.ls,h.bP.w0,h.bP.sm⟩,h.wn,h.tl,h.tp⟩
 cases x with
 |now=>
  refine F _ (O7 _ _ _ h.sh.tick) (fun y hy=>?_) ((h.sh.wd 0).ck rfl).1 (.inl ⟨rfl,rfl⟩) rfl rfl rfl rfl;have hy':nE 0=some y:=hy;simp[nE] at hy';subst hy';show 0<8;omega
 |live s=>
  have hs:s<8:=hx;refine F _ (O7 _ _ _ h.sh.tick) (fun y hy=>?_) ?_ (.inl ⟨rfl,rfl⟩) rfl rfl rfl rfl
  . have hy':nE (s+1)=some y:=hy
    unfold nE at hy'
    split at hy'
    . exact xx y hy'
    . obtain rfl:=zj hy'
      show s+1<8;omega
  . show (if _ then min D.low _ else D.low)<=L
    split
    . exact fq (Nat.min_le_left _ _) hlo
    . exact hlo
 |head k=>
  have Y:k<=63:=hx;exact F _ (O7 _ _ _ h.sh.tick) (qN Y (.inl rfl) (h.sh.head (by omega))) hlo (.inl ⟨rfl,rfl⟩) rfl rfl rfl rfl
 |visit k ak G=>
  obtain⟨Y,ha,hl⟩:=hx;refine F _ (O7 _ _ _ h.sh.tick) (fun y hy=>?_) hlo (.inl ⟨rfl,rfl⟩) rfl rfl rfl rfl;have hy':=zj hy;subst hy'
  split
  . rename_i h2
    exact⟨Y,ha,hl,qg (h.sh.slot hl).1 h2⟩
  . exact⟨Y,ha,hl⟩
 |maker k ak G id=>
  obtain⟨Y,ha,hl,hid⟩:=hx;refine F _ (O7 _ _ _ h.sh.tick) (fun y hy=>?_) hlo (.inl ⟨rfl,rfl⟩) rfl rfl rfl rfl;have hy':=zj hy;subst hy'
  split
  . exact⟨Y,ha,hl⟩
  . exact⟨Y,hl⟩
 |dC k ak G b=>
  obtain⟨Y,ha,hl⟩:=hx;refine F _ (O7 _ _ _ h.sh.tick) (fun y hy=>?_) hlo (.inl ⟨rfl,rfl⟩) rfl rfl rfl rfl;have hy':=zj hy;subst hy'
  split
  . exact⟨Y,ha,hl⟩
  . exact⟨Y,hl⟩
 |on k G=>
  obtain⟨Y,hl⟩:=hx;exact F _ (O7 _ _ _ h.sh.tick) (qN Y (.inr hl) (h.sh.slot hl).2.2) hlo (.inl ⟨rfl,rfl⟩) rfl rfl rfl rfl
 |unlink k ak G=>
  obtain⟨Y,ha,hl⟩:=hx;refine F _ (O7 _ _ _ h.sh.tick) (fun y hy=>?_) hlo (.inl ⟨rfl,rfl⟩) rfl rfl rfl rfl;have hy':=zj hy;subst hy';exact⟨Y,ha,hl,(h.sh.slot hl).2.2⟩
 |cut k ak G next=>
  obtain⟨Y,ha,hl,hn⟩:=hx;unfold St.aH;simp only
  split
  . rename_i h0
    exact F _ (XM _ _ _ _ (h.sh.put (pE (ha.of h0) hn))) (qN Y ha hn) hlo (.inr ⟨G,hl,rfl,rfl⟩) rfl rfl rfl rfl
  split
  . exact F _ (XM _ _ _ _ (h.sh.put (pF (by omega) hn))) (qN Y ha hn) hlo (.inr ⟨G,hl,rfl,rfl⟩) rfl rfl rfl rfl
  . exact F _ (O7 _ _ _ h.sh.tick) (xx) hlo (.inl ⟨rfl,rfl⟩) rfl rfl rfl rfl
theorem qA (D:St) (k:S):(D.aH k).1.calls=D.calls∧(D.aH k).1.count=D.count+1∧(D.aH k).1.aA=D.aA∧(D.aH k).1.ai=D.ai∧(D.aH k).1.seq=D.seq∧(D.aH k).1.aB=D.aB∧(D.aH k).1.aQ=D.aQ:=by
 cases k<;>simp only[St.aH]<;>(repeat' split)<;>exact⟨rfl,rfl,rfl,rfl,rfl,rfl,rfl⟩
theorem WF.bX (h:WF N L n D):WF N L (n+1) D.bX.1∧D.count<=D.bX.1.count∧D.bX.1.count<=D.count+1∧D.aA<=D.bX.1.aA∧D.bX.1.aA<=D.aA+1∧D.bX.1.seq=D.seq∧D.bX.1.aB=D.aB∧D.bX.1.ai=D.ai∧D.bX.1.calls=D.calls∧D.bX.1.aQ=D.aQ:=by
 have hgo:WF N L (n+1) (St.bX.go D).1∧D.count<=(St.bX.go D).1.count∧(St.bX.go D).1.count<=D.count+1∧D.aA<=(St.bX.go D).1.aA∧(St.bX.go D).1.aA<=D.aA+1∧(St.bX.go D).1.seq=D.seq∧(St.bX.go D).1.aB=D.aB∧(St.bX.go D).1.ai=D.ai∧(St.bX.go D).1.calls=D.calls∧(St.bX.go D).1.aQ=D.aQ:=by
  have hx:Ga N (D.sw.getD .now):=by
   cases e:D.sw with
   |none=>trivial
   |some x=>exact h.sx.so x e
  have h2:=h.aH hx;obtain⟨e1,e2,e3,e4,e5,e6,e7⟩:=qA D (D.sw.getD .now);unfold St.bX.go;simp only;refine⟨⟨h2.sh.same rfl rfl rfl rfl rfl h2.sh.t8 h2.sh.c8 rfl rfl rfl rfl rfl,h2.sx.same rfl rfl rfl rfl (zr _) (zr _),h2.tx,h2.ti,h2.cx⟩,by omega,by omega,by omega,by omega,e5,e6,e4,e1,e7⟩
 unfold St.bX
 split
 . rename_i G seq rest hcut
   split
   . obtain⟨e1,e2,e3,e4,e5,e6,e7,e8⟩:=oK D G
     obtain⟨s1,s2,s3,s4⟩:=Bp D G;have hS:=h.sh.give G;have hcn:=h.sx.cn;rw[hcut] at hcn;refine⟨⟨hS.same rfl rfl rfl rfl rfl hS.t8 hS.c8 rfl rfl rfl rfl rfl,⟨fun x hx=>h.sx.so x (by rw[<-s1];exact hx),by show (D.give G).low<=L;rw[s2];exact h.sx.lo,fun p hp=>?_,?_,?_⟩,fun q u hu=>?_,fun q u hu=>?_,fun q u hu=>?_⟩,?_,?_,?_,?_,e5,e6,e1,e2,e7⟩
     . show LK N p.1∧p.2<=(D.give G).seq
       rw[e5];exact h.sx.cu p (by rw[hcut];exact nV _ hp)
     . show rest.length<=(D.give G).cuts
       rw[s4];simp at hcn;omega
     . show (D.give G).cuts<=_
       rw[s4];exact Nat.le_succ_of_le h.sx.cb
     . change (D.give G).ai.getD q none=some u at hu
       rw[e1] at hu;exact (h.tx q u hu).mono (pQ _)
     . change (D.give G).ai.getD q none=some u at hu
       rw[e1] at hu;show u.id<=(D.give G).aB;rw[e6];exact h.ti q u hu
     . change (D.give G).calls.getD q none=some u at hu
       show ∃ t,(D.give G).ai.getD q none=some t∧_;rw[e2] at hu;rw[e1];exact h.cx q u hu
     . show D.count<=(D.give G).count;omega
     . show (D.give G).count<=_;omega
     . show D.aA<=(D.give G).aA;omega
     . show (D.give G).aA<=_;omega
   . exact hgo
 . exact hgo
theorem WF.tick (h:WF N L n D):WF N L n D.tick:=⟨h.sh.tick,⟨h.sx.so,h.sx.lo,h.sx.cu,h.sx.cn,h.sx.cb⟩,h.tx,h.ti,h.cx⟩
theorem WF.mono {n':Nat} (h:WF N L n D) (hn:n<=n'):WF N L n' D:=⟨h.sh.mono hn,⟨h.sx.so,h.sx.lo,h.sx.cu,h.sx.cn,fq h.sx.cb hn⟩,fun s t ht=>(h.tx s t ht).mono hn,h.ti,h.cx⟩
end
theorem WF.nP {N L n:Nat} {D:St} (h:WF N L n D) (hn:n<999980) (hct:D.count<3000000000000000000) (hlk:D.aA<1000000000000000000):nP D=true:=by
 unfold Em.nP;simp only[gT,zd,List.all_eq_true];have hcn:=h.sx.cn;have hcb:=h.sx.cb;refine⟨?_,lL h.sh (by omega),fun p hp=>jW (h.sx.cu p hp).1 h.sh.sl,by omega,hct,hlk,h.sh.c8⟩;have hx:Ga N (D.sw.getD .now):=by
  cases e:D.sw with
  |none=>trivial
  |some x=>exact h.sx.so x e
 unfold Ue
 cases e:D.sw.getD .now with
 |now=>simp only[zd];exact (h.sh.wd 0).u
 |live s=>rw[e] at hx;simp only[zd];exact hx
 |head F=>rw[e] at hx;simp only[zd];exact hx
 |visit F ak G=>rw[e] at hx;simp only[gT];exact⟨jW hx.2.2 h.sh.sl,iT h.sh _⟩
 |maker F ak G id=>rw[e] at hx;simp only[gT,zd];exact⟨hx.2.2.2,iT h.sh _⟩
 |dC F ak G b=>rw[e] at hx;simp only[gT];exact⟨jW hx.2.2 h.sh.sl,iT h.sh _⟩
 |on F G=>rw[e] at hx;simp only[gT,zd];exact⟨hx.1,jW hx.2 h.sh.sl⟩
 |unlink F ak G=>rw[e] at hx;exact jW hx.2.2 h.sh.sl
 |cut F ak G next=>
  rw[e] at hx;simp only[gT,zd,pR];exact⟨hx.1,hx.2.1.imp id (fun hl=>jW hl h.sh.sl),by omega⟩
end Go.Proofs.YthicolbbmjfkfaaGreat.Em.Cw
