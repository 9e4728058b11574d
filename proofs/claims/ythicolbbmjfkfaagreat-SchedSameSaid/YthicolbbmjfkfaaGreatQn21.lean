import Derived.Test.YthicolbbmjfkfaaGreatQn20
set_option linter.unusedVariables false
set_option linter.unusedSimpArgs false
set_option maxRecDepth 100000
set_option maxHeartbeats 1600000
namespace Go.Proofs.YthicolbbmjfkfaaGreat.Em.Cw
open En
structure LK (N l:Nat):Prop where
 lo:1<=l % 131072
 hi:l % 131072<=N
 u:l<18446744073709551616
def LZ (N l:Nat):Prop:=l=0∨LK N l
def Wd (w:Nat):Prop:=(rd w).1=2->(rd w).2<=2000
structure Cu (N L i v:Nat):Prop where
 u:v<18446744073709551616
 ck:i=0->ai v<=L∧aZ v<=2000
 lv:1<=i->i<=8->v<=L
 hd:9<=i->i<73->LZ N v
 nx:73<=i->i<73+N*3->i % 3=0->LZ N v
 H:73<=i->i<73+N*3->i % 3≠0->Wd v
structure Pool (N:Nat) (D:St):Prop where
 fr:∀ i∈D.free,i<N∧(D.tags.getD i (0,false)).2=false
 nd:D.free.Nodup
 tg:∀ i,(D.tags.getD i (0,false)).1<=65535
 ls:D.listed=false->D.free=[]∧∀ i,(D.tags.getD i (0,false)).2=false
 w0:D.listed=false->D.ja=0∧D.tags.countP (·.2)=0
 sm:D.listed=true->D.free.length+D.ja+D.tags.countP (·.2)<=N
structure Sh (N L n:Nat) (D:St):Prop where
 sl:D.aF=N
 lm:D.limit=L
 n1:N<=256
 l1:L<=1099511627776
 nw:D.words.length=73+N*3+2001
 nt:D.tags.length=N
 nv:D.values.length=N
 t8:D.aj.length=8
 c8:D.calls.length=8
 md:D.aB<=2000
 wd:∀ i,Cu N L i (D.word i)
 bO:Pool N D
 wn:D.ja<=n
 tl:D.aT.length<=n
 tp:∀ e∈D.aT,e.res.aO.length<=64
structure TX (N L n:Nat) (t:bL):Prop where
 i1:1<=t.id
 i2:t.id<=2000
 op:t.ops<=12
 bg:t.aJ<=L
 en:t.aA<=L
 ce:∀ p∈t.cells,LZ N p.2.own∧LZ N p.2.old∧(p.2.there=true->LK N p.2.own)
 ky:∀ k∈t.keys,∃ x,t.cell k=some x
 kn:t.keys.length<=n
 rd:∀ r∈t.reads,r.1<64
 rn:t.reads.length<=n
 bd:∀ b∈t.aP,b<=2000
 bn:t.aP.length<=n
def ig (t:bL) (c:dN) (h:dJ):Prop:=h.F<64∧match h.thn with
 |.get=>True
 |.scan k=>k=h.F∧c.op.hi<=63∧c.r.aO.length<=k
 |.change=>c.op.F=h.F∧t.cell c.op.F=none
 |.judge i _=>i<t.reads.length
def xU (N L:Nat) (t:bL) (c:dN):K->Prop
 |.fin r=>r.over=0∧r.aO.length<=64
 |.start h=>ig t c h
 |.visit h G=>ig t c h∧LK N G
 |.older h G=>ig t c h∧LK N G
 |.maker h G id=>ig t c h∧LK N G∧id<=2000
 |.ended h G mb=>ig t c h∧LK N G∧mb<=2000
 |.gW h G mb id=>ig t c h∧LK N G∧mb<=2000∧id<=2000
 |.seen h G mb=>ig t c h∧LK N G∧mb<=2000
 |.again e=>e<18446744073709551616∧Wd e∧∃ x,t.cell c.op.F=some x∧LK N x.own
 |.own G=>LK N G∧t.cell c.op.F=none∧c.op.F<64
 |.ib G w id=>LK N G∧t.cell c.op.F=none∧c.op.F<64∧id<=2000
 |.claim G w=>LK N G∧t.cell c.op.F=none∧c.op.F<64
 |.fresh G=>LZ N G∧t.cell c.op.F=none∧c.op.F<64
 |.next G head at_=>LZ N G∧LZ N head∧LK N at_∧t.cell c.op.F=none∧c.op.F<64
 |.free G head at_=>LZ N G∧LZ N head∧LK N at_∧t.cell c.op.F=none∧c.op.F<64
 |.dM G head at_ id=>LZ N G∧LZ N head∧LK N at_∧id<=2000∧t.cell c.op.F=none∧c.op.F<64
 |.fB x G head=>LK N G∧c.op.F<64∧(if x=true then (t.cell c.op.F).isSome=true else t.cell c.op.F=none∧LZ N head)
 |.dZ x G head=>LK N G∧c.op.F<64∧(if x=true then (t.cell c.op.F).isSome=true else t.cell c.op.F=none∧LZ N head)
 |.push G head=>LK N G∧LZ N head∧t.cell c.op.F=none∧c.op.F<64
 |.dL G head=>LK N G∧LZ N head∧t.cell c.op.F=none∧c.op.F<64
 |.over G=>LK N G∧(t.cell c.op.F).isSome=true∧c.op.F<64
 |.iq G head=>LK N G∧LZ N head∧(t.cell c.op.F).isSome=true∧c.op.F<64
 |.dQ G head=>LK N G∧LZ N head∧(t.cell c.op.F).isSome=true∧c.op.F<64
 |.draw=>True
 |.ed w now=>w<18446744073709551616∧aZ w<=2000∧now<L∧ai w<=L
 |.turn w now=>now<L
 |.dR=>True
 |.wait i=>i<t.aP.length
 |.cZ=>True
 |.abort _ _=>True
 |.turns l r=>(r.over=3∨r.over=4)∧r.aO=[]∧∀ x∈l,Cu N L x.at_ x.new∧73<=x.at_∧x.at_<73+N*3
structure CX (N L:Nat) (t:bL) (c:dN):Prop where
 op:p9 c.op=true
 ov:c.over=false
 ro:c.r.over=0
 k:∃ k,c.k=some k∧xU N L t c k
def Gy (N:Nat):S->Prop
 |.now=>True
 |.live s=>s<8
 |.head F=>F<=63
 |.visit F ak G=>F<=63∧LZ N ak∧LK N G
 |.maker F ak G id=>F<=63∧LZ N ak∧LK N G∧id<=2000
 |.dD F ak G b=>F<=63∧LZ N ak∧LK N G
 |.on F G=>F<=63∧LK N G
 |.unlink F ak G=>F<=63∧LZ N ak∧LK N G
 |.cut F ak G next=>F<=63∧LZ N ak∧LK N G∧LZ N next
structure SX (N L n:Nat) (D:St):Prop where
 so:∀ x,D.sw=some x->Gy N x
 lo:D.low<=L
 cu:∀ p∈D.cut,LK N p.1∧p.2<=D.seq
 cn:D.cut.length<=D.cuts
 cb:D.cuts<=n
structure WF (N L n:Nat) (D:St):Prop where
 sh:Sh N L n D
 sx:SX N L n D
 tx:∀ s t,D.aj.getD s none=some t->TX N L n t
 ti:∀ s t,D.aj.getD s none=some t->t.id<=D.aB
 cx:∀ s c,D.calls.getD s none=some c->∃ t,D.aj.getD s none=some t∧CX N L t c
theorem LK.ag {N l:Nat} (h:LK N l):ag l<N:=by have:=h.lo;have:=h.hi;unfold En.ag;omega
theorem LZ.of {N l:Nat} (h:LZ N l) (hn:l≠0):LK N l:=h.resolve_left hn
theorem LK.ne {N l:Nat} (h:LK N l):l≠0:=by rintro rfl;have:=h.lo;omega
theorem Cu.zero (N L i:Nat):Cu N L i 0:=by
 refine⟨by decide,fun _=>⟨by simp[ai],by simp[aZ]⟩,fun _ _=>zz _,fun _ _=>.inl rfl,fun _ _ _=>.inl rfl,fun _ _ _=>?_⟩;unfold Wd;decide
theorem gP (l:List Nat) (i v j:Nat):(l.set i v).getD j 0=if j=i∧i<l.length then v else l.getD j 0:=by
 simp only[mM,List.getElem?_set]
 by_cases h:i=j
 . subst h
   by_cases hl:i<l.length
   . simp[hl]
   . simp[hl]
 . have h2:¬ j=i:=fun e=>h e.symm
   simp[h,h2]
theorem bZ (D:St) (i v j:Nat):(D.put i v).word j=if j=i∧i<D.words.length then v else D.word j:=gP _ _ _ _
theorem Sh.tick {N L n:Nat} {D:St} (h:Sh N L n D):Sh N L n D.tick:=⟨h.sl,h.lm,h.n1,h.l1,h.nw,h.nt,h.nv,h.t8,h.c8,h.md,h.wd,⟨h.bO.fr,h.bO.nd,h.bO.tg,h.bO.ls,h.bO.w0,h.bO.sm⟩,h.wn,h.tl,h.tp⟩
theorem Sh.put {N L n:Nat} {D:St} (h:Sh N L n D) {i v:Nat} (hv:Cu N L i v):Sh N L n (D.put i v):=by
 refine⟨h.sl,h.lm,h.n1,h.l1,?_,h.nt,h.nv,h.t8,h.c8,h.md,fun j=>?_,⟨h.bO.fr,h.bO.nd,h.bO.tg,h.bO.ls,h.bO.w0,h.bO.sm⟩,h.wn,h.tl,h.tp⟩
 . show (D.words.set i v).length=_
   rw[rz];exact h.nw
 . rw[bZ]
   split
   . rename_i e;rw[e.1];exact hv
   . exact h.wd j
theorem Sh.cB {N L n:Nat} {D:St} (h:Sh N L n D) {i o v:Nat} (hv:Cu N L i v):Sh N L n (D.cB i o v):=by
 unfold St.cB
 split
 . exact h.put hv
 . exact h.tick
theorem Sh.bK {N L n:Nat} {D:St} (h:Sh N L n D) (s:Nat) (t:bL):Sh N L n (D.bK s t):=
 ⟨h.sl,h.lm,h.n1,h.l1,h.nw,h.nt,h.nv,by show (D.aj.set s _).length=8;rw[rz];exact h.t8,h.c8,h.md,h.wd,⟨h.bO.fr,h.bO.nd,h.bO.tg,h.bO.ls,h.bO.w0,h.bO.sm⟩,h.wn,h.tl,h.tp⟩
theorem Sh.aK {N L n:Nat} {D:St} (h:Sh N L n D) (s:Nat) (c:dN):Sh N L n (D.aK s c):=
 ⟨h.sl,h.lm,h.n1,h.l1,h.nw,h.nt,h.nv,h.t8,by show (D.calls.set s _).length=8;rw[rz];exact h.c8,h.md,h.wd,⟨h.bO.fr,h.bO.nd,h.bO.tg,h.bO.ls,h.bO.w0,h.bO.sm⟩,h.wn,h.tl,h.tp⟩
theorem Sh.event {N L n:Nat} {D:St} (h:Sh N L n D) (e:Ev) (he:e.res.aO.length<=64:=by first|exact zz _|assumption):Sh N L (n+1) (D.event e):=
 ⟨h.sl, h.lm, h.n1, h.l1, h.nw, h.nt, h.nv, h.t8, h.c8, h.md, h.wd, ⟨h.bO.fr, h.bO.nd, h.bO.tg, h.bO.ls, h.bO.w0, h.bO.sm⟩, Nat.le_succ_of_le h.wn, by show (D.aT ++ [e]).length <= _; rw [jR]; have := h.tl; simp; omega, fun x hx => by
   have hx':x∈D.aT++[e]:=hx
   rw[List.mem_append] at hx'
   rcases hx' with hx'|hx'
   . exact h.tp x hx'
   . simp at hx';subst hx';exact he⟩
theorem Sh.vals {N L n:Nat} {D:St} (h:Sh N L n D) (i:Nat) (v:Nat×Nat):Sh N L n {D with values:=D.values.set i v}:=
 ⟨h.sl,h.lm,h.n1,h.l1,h.nw,h.nt,by show (D.values.set i v).length=N;rw[rz];exact h.nv,h.t8,h.c8,h.md,h.wd,⟨h.bO.fr,h.bO.nd,h.bO.tg,h.bO.ls,h.bO.w0,h.bO.sm⟩,h.wn,h.tl,h.tp⟩
theorem Sh.mono {N L n n':Nat} {D:St} (h:Sh N L n D) (hn:n<=n'):Sh N L n' D:=⟨h.sl,h.lm,h.n1,h.l1,h.nw,h.nt,h.nv,h.t8,h.c8,h.md,h.wd,h.bO,gy h.wn hn,gy h.tl hn,h.tp⟩
theorem TX.mono {N L n n':Nat} {t:bL} (h:TX N L n t) (hn:n<=n'):TX N L n' t:=⟨h.i1,h.i2,h.op,h.bg,h.en,h.ce,h.ky,gy h.kn hn,h.rd,gy h.rn hn,h.bd,gy h.bn hn⟩
theorem Sh.uV {N L n:Nat} {D:St} (h:Sh N L n D) (i:Nat) (v:Nat×Bool) (j:Nat):(D.tags.set i v).getD j (0,false)=if j=i∧i<N then v else D.tags.getD j (0,false):=by
 rw[<-h.nt];simp only[mM,List.getElem?_set]
 by_cases e:i=j
 . subst e
   by_cases hl:i<D.tags.length
   . simp[hl]
   . simp[hl]
 . have h2:¬ j=i:=fun e'=>e e'.symm
   simp[e,h2]
theorem Sh.list {N L n:Nat} {D:St} (h:Sh N L n D):Sh N L n D.list:=by
 unfold St.list
 split
 . exact h
 . rename_i hl
   have hl':D.listed=false:=by simpa using hl
   obtain⟨hf,ht⟩:=h.bO.ls hl';refine⟨h.sl,h.lm,h.n1,h.l1,h.nw,h.nt,h.nv,h.t8,h.c8,h.md,h.wd,⟨fun i hi=>?_,?_,h.bO.tg,fun e=>(by cases e),fun e=>(by cases e),fun _=>?_⟩,h.wn,h.tl,h.tp⟩
   . change i∈D.free++(List.range D.aF).reverse at hi
     rw[hf,h.sl] at hi;simp at hi;exact⟨hi,ht i⟩
   . show (D.free++(List.range D.aF).reverse).Nodup
     rw[hf,List.nil_append];exact List.pairwise_reverse.2 ((List.nodup_range (n:=D.aF)).imp fun h=>Ne.symm h)
   . obtain⟨e1,e2⟩:=h.bO.w0 hl'
     show (D.free++(List.range D.aF).reverse).length+D.ja+D.tags.countP (·.2)<=N;rw[e1,e2,hf,h.sl];simp
theorem JQ {N i tag:Nat} (hN:N<=256) (hi:i<N) (ht:tag<=65535):LK N (rO i tag):=by
 refine⟨?_,?_,?_⟩<;>(unfold rO;omega)
theorem nW (D:St):D.list.listed=true:=by
 unfold St.list
 split
 . assumption
 . rfl
theorem Sh.take {N L n:Nat} {D:St} (h:Sh N L n D):Sh N L n D.take.1∧∀ l,D.take.2=some l->LK N l:=by
 have hL:=h.list;unfold St.take;simp only
 split
 . exact⟨hL,fun l e=>by cases e⟩
 . rename_i i hi
   have hmem:i∈D.list.free:=List.mem_of_getLast? hi;have hfr:=hL.bO.fr i hmem;have hsplit:D.list.free=D.list.free.dropLast++[i]:=by
    have hne:D.list.free≠[]:=by intro e;rw[e] at hi;cases hi
    have h1:=List.dropLast_concat_getLast hne;have h2:D.list.free.getLast hne=i:=by
     rw[List.getLast?_eq_some_getLast hne] at hi;exact zj hi
    rw[h2] at h1;exact h1.symm
   have hnd:=hL.bO.nd;rw[hsplit] at hnd;rw[List.nodup_append] at hnd;refine⟨⟨hL.sl,hL.lm,hL.n1,hL.l1,hL.nw,?_,hL.nv,hL.t8,hL.c8,hL.md,hL.wd,⟨fun j hj=>?_,hnd.1,fun j=>?_,fun e=>?_,fun e=>?_,fun _=>?_⟩,hL.wn,hL.tl,hL.tp⟩,fun l e=>?_⟩
   . show (D.list.tags.set i _).length=N
     rw[rz];exact hL.nt
   . have hj':j∈D.list.free.dropLast:=hj
     have hjm:j∈D.list.free:=by rw[hsplit];exact List.mem_append_left _ hj'
     refine⟨(hL.bO.fr j hjm).1,?_⟩;show ((D.list.tags.set i _).getD j (0,false)).2=false;rw[hL.uV];have hne:¬ j=i:=fun e=>hnd.2.2 j hj' i (by simp) e
     rw[aR (fun e=>hne e.1)];exact (hL.bO.fr j hjm).2
   . show ((D.list.tags.set i _).getD j (0,false)).1<=65535
     rw[hL.uV]
     split
     . exact hL.bO.tg i
     . exact hL.bO.tg j
   . exfalso
     have e':D.list.listed=false:=e;rw[nW] at e'
     cases e'
   . exfalso
     have e':D.list.listed=false:=e;rw[nW] at e'
     cases e'
   . have hsm:=hL.bO.sm (nW D)
     have hl1:D.list.free.length=D.list.free.dropLast.length+1:=by rw[hsplit];simp
     have hil:i<D.list.tags.length:=by rw[hL.nt];exact hfr.1
     have hfl:D.list.tags[i].2=false:=by have:=hfr.2;rw[mM,zx hil] at this;exact this
     show D.list.free.dropLast.length+D.list.ja+(D.list.tags.set i ((D.list.tags.getD i (0,false)).1,true)).countP (·.2)<=N;rw[List.countP_set hil,hfl];simp;omega
   . obtain rfl:=zj e
     exact JQ h.n1 hfr.1 (hL.bO.tg i)
theorem ug {D:St} {G:Nat} (h:(D.tags.getD (ag G) (0,false)).2=true):∃ hl:ag G<D.tags.length,D.tags[ag G].2=true:=by
 rw[mM] at h
 by_cases hl:ag G<D.tags.length
 . rw[zx hl] at h;exact⟨hl,h⟩
 . rw[Cx (by omega)] at h;cases h
theorem Sh.give {N L n:Nat} {D:St} (h:Sh N L n D) (G:Nat):Sh N L (n+1) (D.give G):=by
 unfold St.give
 split
 . rename_i hp
   have hp2:=hp;unfold St.kF at hp2;simp only[il,zd,beq_iff_eq] at hp2;obtain⟨⟨⟨h1,h2⟩,h3⟩,h4⟩:=hp2;have hlt:ag G<N:=by rw[h.sl] at h2;unfold ag;omega
   have hls:D.listed=true:=by
    cases e:D.listed with
    |true=>rfl
    |false=>have:=(h.bO.ls e).2 (ag G);rw[this] at h3;cases h3
   simp only
   split
   . refine⟨h.sl,h.lm,h.n1,h.l1,h.nw,by show (D.tags.set _ _).length=N;rw[rz];exact h.nt,h.nv,h.t8,h.c8,h.md,h.wd,⟨fun j hj=>?_,h.bO.nd,fun j=>?_,fun e=>(by rw[show D.listed=false from e] at hls;cases hls),fun e=>(by rw[show D.listed=false from e] at hls;cases hls),fun _=>?_⟩,Nat.succ_le_succ h.wn,Nat.le_succ_of_le h.tl,h.tp⟩
     . refine⟨(h.bO.fr j hj).1,?_⟩
       show ((D.tags.set _ _).getD j (0,false)).2=false;rw[h.uV]
       split
       . rfl
       . exact (h.bO.fr j hj).2
     . show ((D.tags.set _ _).getD j (0,false)).1<=65535
       rw[h.uV]
       split
       . exact h.bO.tg _
       . exact h.bO.tg j
     . obtain⟨hl,ht⟩:=ug h3
       have hsm:=h.bO.sm hls;have hpos:0<D.tags.countP (·.2):=List.countP_pos_iff.2 ⟨_,List.getElem_mem hl,ht⟩;show D.free.length+(D.ja+1)+(D.tags.set (ag G) _).countP (·.2)<=N;rw[List.countP_set hl,ht];simp;omega
   . rename_i KR
     have ZN:=h.bO.tg (ag G);refine⟨h.sl,h.lm,h.n1,h.l1,h.nw,by show (D.tags.set _ _).length=N;rw[rz];exact h.nt,h.nv,h.t8,h.c8,h.md,h.wd,⟨fun j hj=>?_,?_,fun j=>?_,fun e=>(by rw[show D.listed=false from e] at hls;cases hls),fun e=>(by rw[show D.listed=false from e] at hls;cases hls),fun _=>?_⟩,Nat.le_succ_of_le h.wn,Nat.le_succ_of_le h.tl,h.tp⟩
     . have hj':j∈D.free++[ag G]:=hj
       show j<N∧((D.tags.set _ _).getD j (0,false)).2=false;rw[h.uV];rw[List.mem_append] at hj'
       rcases hj' with hj'|hj'
       . refine⟨(h.bO.fr j hj').1,?_⟩
         split
         . rfl
         . exact (h.bO.fr j hj').2
       . simp at hj'
         subst hj';exact⟨hlt,by rw[aV ⟨rfl,hlt⟩]⟩
     . show (D.free++[ag G]).Nodup
       rw[List.nodup_append];refine⟨h.bO.nd,by simp,fun a ha b hb e=>?_⟩;simp at hb;subst hb;subst e;rw[(h.bO.fr _ ha).2] at h3
       cases h3
     . show ((D.tags.set _ _).getD j (0,false)).1<=65535
       rw[h.uV]
       split
       . show _+1<=65535
         omega
       . exact h.bO.tg j
     . obtain⟨hl,ht⟩:=ug h3
       have hsm:=h.bO.sm hls;have hpos:0<D.tags.countP (·.2):=List.countP_pos_iff.2 ⟨_,List.getElem_mem hl,ht⟩;show (D.free++[ag G]).length+D.ja+(D.tags.set (ag G) _).countP (·.2)<=N;rw[List.countP_set hl,ht];simp;omega
 . exact h.mono (oW _)
theorem mZ:∀ (N:Nat) (l:List Nat),l.Nodup->(∀ i∈l,i<N)->l.length<=N
 |0,l,_,h=>by
  cases l with
  |nil=>simp
  |cons a l=>exact absurd (h a nK) (by omega)
 |N+1,l,hn,h=>by
  by_cases hm:N∈l
  . have h1 := mZ N (l.erase N) (hn.erase N) (fun i hi => by
      have h2:=(List.Nodup.mem_erase_iff hn).1 hi
      have h3:=h i h2.2
      omega)
    rw[List.length_erase_of_mem hm] at h1;omega
  . have := mZ N l hn (fun i hi => by
      have:=h i hi
      have hne:i≠N:=by rintro rfl;exact hm hi
      omega)
    omega
theorem Pool.len {N:Nat} {D:St} (h:Pool N D):D.free.length<=N:=mZ N _ h.nd (fun i hi=>(h.fr i hi).1)
theorem aS {α:Type} (l:List (Option α)) (s:Nat) (x:Option α) (q:Nat) (hs:s<l.length):(l.set s x).getD q none=if q=s then x else l.getD q none:=by
 simp only[mM,List.getElem?_set]
 by_cases h:s=q
 . subst h;simp[hs]
 . have h2:¬ q=s:=fun e=>h e.symm
   simp[h,h2]
def JR (D τ:St):Prop:=τ.sw=D.sw∧τ.low=D.low∧τ.cut=D.cut∧τ.cuts=D.cuts
structure Mid (N L n s d:Nat) (D τ:St) (t:bL) (c:dN):Prop where
 s8:s<8
 sh:Sh N L n τ
 tx:τ.aj.getD s none=some t
 ca:τ.calls.getD s none=some c
 t1:TX N L n t
 op:p9 c.op=true
 ox:∀ q,q≠s->τ.aj.getD q none=D.aj.getD q none
 oc:∀ q,q≠s->τ.calls.getD q none=D.calls.getD q none
 ct:τ.count=D.count+d
 lk:τ.aI=D.aI
 sq:τ.seq=D.seq
 md:τ.aB=D.aB
 sp:JR D τ
 oq:c.op=(D.c s).op∧c.seq=(D.c s).seq
 tq:t.id=(D.t s).id
section
variable {N L n s d:Nat} {D τ:St} {t:bL} {c:dN}
theorem Mid.et (m:Mid N L n s d D τ t c):τ.t s=t:=by unfold St.t;rw[m.tx];rfl
theorem Mid.ec (m:Mid N L n s d D τ t c):τ.c s=c:=by unfold St.c;rw[m.ca];rfl
theorem Mid.tick (m:Mid N L n s d D τ t c):Mid N L n s (d+1) D τ.tick t c:=⟨m.s8,m.sh.tick,m.tx,m.ca,m.t1,m.op,m.ox,m.oc,by show τ.count+1=_;have:=m.ct;omega,m.lk,m.sq,m.md,m.sp,m.oq,m.tq⟩
theorem Mid.put (m:Mid N L n s d D τ t c) {i v:Nat} (hv:Cu N L i v):Mid N L n s (d+1) D (τ.put i v) t c:=⟨m.s8,m.sh.put hv,m.tx,m.ca,m.t1,m.op,m.ox,m.oc,by show τ.count+1=_;have:=m.ct;omega,m.lk,m.sq,m.md,m.sp,m.oq,m.tq⟩
theorem Mid.cB (m:Mid N L n s d D τ t c) {i o v:Nat} (hv:Cu N L i v):Mid N L n s (d+1) D (τ.cB i o v) t c:=by
 unfold St.cB
 split
 . exact m.put hv
 . exact m.tick
theorem Mid.bK (m:Mid N L n s d D τ t c) {t2:bL} (h:TX N L n t2) (hq:t2.id=t.id:=by rfl):Mid N L n s d D (τ.bK s t2) t2 c:=by
 refine⟨m.s8,m.sh.bK s t2,?_,m.ca,h,m.op,fun q hq=>?_,m.oc,m.ct,m.lk,m.sq,m.md,m.sp,m.oq,hq.trans m.tq⟩
 . show (τ.aj.set s (some t2)).getD s none=_
   rw[aS _ _ _ _ (by rw[m.sh.t8];exact m.s8),aV rfl]
 . show (τ.aj.set s (some t2)).getD q none=_
   rw[aS _ _ _ _ (by rw[m.sh.t8];exact m.s8),aR hq,m.ox q hq]
theorem Mid.aK (m:Mid N L n s d D τ t c) (c2:dN) (h:c2.op=c.op∧c2.seq=c.seq):Mid N L n s d D (τ.aK s c2) t c2:=by
 refine⟨m.s8,m.sh.aK s c2,m.tx,?_,m.t1,by rw[h.1];exact m.op,m.ox,fun q hq=>?_,m.ct,m.lk,m.sq,m.md,m.sp,⟨h.1.trans m.oq.1,h.2.trans m.oq.2⟩,m.tq⟩
 . show (τ.calls.set s (some c2)).getD s none=_
   rw[aS _ _ _ _ (by rw[m.sh.c8];exact m.s8),aV rfl]
 . show (τ.calls.set s (some c2)).getD q none=_
   rw[aS _ _ _ _ (by rw[m.sh.c8];exact m.s8),aR hq,m.oc q hq]
theorem Mid.event (m:Mid N L n s d D τ t c) (e:Ev) (he:e.res.aO.length<=64:=by first|exact zz _|assumption):Mid N L (n+1) s d D (τ.event e) t c:=⟨m.s8,m.sh.event e he,m.tx,m.ca,m.t1.mono (oW _),m.op,m.ox,m.oc,m.ct,m.lk,m.sq,m.md,m.sp,m.oq,m.tq⟩
theorem Mid.vals (m:Mid N L n s d D τ t c) (i:Nat) (v:Nat×Nat):Mid N L n s d D {τ with values:=τ.values.set i v} t c:=⟨m.s8,m.sh.vals i v,m.tx,m.ca,m.t1,m.op,m.ox,m.oc,m.ct,m.lk,m.sq,m.md,m.sp,m.oq,m.tq⟩
theorem Mid.mono {n':Nat} (m:Mid N L n s d D τ t c) (h:n<=n'):Mid N L n' s d D τ t c:=⟨m.s8,m.sh.mono h,m.tx,m.ca,m.t1.mono h,m.op,m.ox,m.oc,m.ct,m.lk,m.sq,m.md,m.sp,m.oq,m.tq⟩
theorem JS (D:St):D.list.aj=D.aj∧D.list.calls=D.calls∧D.list.count=D.count∧D.list.aI=D.aI∧D.list.seq=D.seq∧D.list.aB=D.aB∧D.list.aT=D.aT∧D.list.words=D.words∧D.list.ja=D.ja:=by
 unfold St.list;split<;>exact⟨rfl,rfl,rfl,rfl,rfl,rfl,rfl,rfl,rfl⟩
theorem uW (D:St):D.take.1.aj=D.aj∧D.take.1.calls=D.calls∧D.take.1.count=D.count∧D.take.1.aI=D.aI∧D.take.1.seq=D.seq∧D.take.1.aB=D.aB∧D.take.1.aT=D.aT∧D.take.1.words=D.words∧D.take.1.ja=D.ja:=by
 unfold St.take;simp only
 split<;>exact JS D
theorem oM (D:St) (l:Nat):(D.give l).aj=D.aj∧(D.give l).calls=D.calls∧(D.give l).count=D.count∧(D.give l).aI=D.aI∧(D.give l).seq=D.seq∧(D.give l).aB=D.aB∧(D.give l).aT=D.aT∧(D.give l).words=D.words:=by
 unfold St.give
 split
 . simp only
   split<;>exact⟨rfl,rfl,rfl,rfl,rfl,rfl,rfl,rfl⟩
 . exact⟨rfl,rfl,rfl,rfl,rfl,rfl,rfl,rfl⟩
theorem Pp (D:St):JR D D.list:=by unfold St.list;split<;>exact⟨rfl,rfl,rfl,rfl⟩
theorem Pq (D:St):JR D D.take.1:=by
 unfold St.take;simp only
 split<;>exact Pp D
theorem BK (D:St) (l:Nat):JR D (D.give l):=by
 unfold St.give
 split
 . simp only
   split<;>exact⟨rfl,rfl,rfl,rfl⟩
 . exact⟨rfl,rfl,rfl,rfl⟩
theorem Mid.take (m:Mid N L n s d D τ t c):Mid N L n s d D τ.take.1 t c:=by
 obtain⟨e1,e2,e3,e4,e5,e6,-⟩:=uW τ;obtain⟨s1,s2,s3,s4⟩:=Pq τ;exact⟨m.s8,m.sh.take.1,by rw[e1];exact m.tx,by rw[e2];exact m.ca,m.t1,m.op,fun q hq=>by rw[e1];exact m.ox q hq,fun q hq=>by rw[e2];exact m.oc q hq,by rw[e3];exact m.ct,by rw[e4];exact m.lk,by rw[e5];exact m.sq,by rw[e6];exact m.md,by have:=m.sp;unfold JR at this ⊢;rw[s1,s2,s3,s4];exact this,m.oq,m.tq⟩
theorem Mid.give (m:Mid N L n s d D τ t c) (l:Nat):Mid N L (n+1) s d D (τ.give l) t c:=by
 obtain⟨e1,e2,e3,e4,e5,e6,-⟩:=oM τ l;obtain⟨s1,s2,s3,s4⟩:=BK τ l;exact⟨m.s8,m.sh.give l,by rw[e1];exact m.tx,by rw[e2];exact m.ca,m.t1.mono (oW _),m.op,fun q hq=>by rw[e1];exact m.ox q hq,fun q hq=>by rw[e2];exact m.oc q hq,by rw[e3];exact m.ct,by rw[e4];exact m.lk,by rw[e5];exact m.sq,by rw[e6];exact m.md,by have:=m.sp;unfold JR at this ⊢;rw[s1,s2,s3,s4];exact this,m.oq,m.tq⟩
def Out (N L n s d:Nat) (D:St) (r:St×K):Prop:=∃ t c,Mid N L n s d D r.1 t c∧c.over=false∧c.r.over=0∧xU N L t c r.2
theorem Out.mono {n':Nat} {r:St×K} (h:Out N L n s d D r) (hn:n<=n'):Out N L n' s d D r:=by
 obtain⟨t,c,m,h⟩:=h;exact⟨t,c,m.mono hn,h⟩
theorem Ps (h:TX N L n t) (F G:Nat) (got:Bool) (Z:F<64):TX N L (n+1) {t with reads:=t.reads++[(F,G,got)]}:=
 ⟨h.i1, h.i2, h.op, h.bg, h.en, h.ce, h.ky, Nat.le_succ_of_le h.kn, fun r hr => by
   have hr':r∈t.reads++[(F,G,got)]:=hr
   rw[List.mem_append] at hr'
   rcases hr' with hr'|hr'
   . exact h.rd r hr'
   . simp at hr';subst hr';exact Z,by show (t.reads++_).length<=_;rw[jR];have:=h.rn;simp;omega,h.bd,Nat.le_succ_of_le h.bn⟩
theorem Mid.read (m:Mid N L n s d D τ t c) (F G:Nat) (got:Bool) (Z:F<64):Mid N L (n+1) s d D (τ.read s F G got) {t with reads:=t.reads++[(F,G,got)]} c:=by
 unfold St.read;rw[m.et];exact (m.mono (oW _)).bK (Ps m.t1 F G got Z)
theorem Mid.bind (m:Mid N L n s d D τ t c) (tq:Nat) (hto:tq<=2000):∃ t2,Mid N L (n+1) s d D (τ.bind s tq) t2 c∧t2.cells=t.cells∧t2.reads=t.reads∧t2.aA=t.aA:=by
 unfold St.bind;rw[m.et]
 split
 . exact⟨t,m.mono (oW _),rfl,rfl,rfl⟩
 . have h:=m.t1
   refine⟨{t with aP:=t.aP++[tq]},?_,rfl,rfl,rfl⟩
   have hT : TX N L (n + 1) { t with aP := t.aP ++ [tq] } := ⟨h.i1, h.i2, h.op, h.bg, h.en, h.ce, h.ky, Nat.le_succ_of_le h.kn, h.rd, Nat.le_succ_of_le h.rn, fun b hb => by
     have hb':b∈t.aP++[tq]:=hb
     rw[List.mem_append] at hb'
     rcases hb' with hb'|hb'
     . exact h.bd b hb'
     . simp at hb';subst hb';exact hto,by show (t.aP++_).length<=_;rw[jR];have:=h.bn;simp;omega⟩
   have m2:=(m.mono (oW n)).bK hT;refine⟨m.s8,(m.sh.bK s {t with aP:=t.aP++[tq]}).event _,m2.tx,m2.ca,hT,m2.op,m2.ox,m2.oc,m2.ct,m2.lk,m2.sq,m2.md,m2.sp,m2.oq,m2.tq⟩
theorem Mc {l:List (Nat×kP)} {F:Nat} {x:kP} (h:l.lookup F=some x):(F,x)∈l:=by
 induction l with
 |nil=>cases h
 |cons a l ih=>
  obtain⟨k,y⟩:=a;rw[List.lookup_cons] at h
  by_cases Z:F=k
  . subst Z
    simp at h;subst h;exact nK
  . rw[beq_false_of_ne Z] at h
    exact qg _ (ih h)
theorem TX.cell (h:TX N L n t) {F:Nat} {x:kP} (hx:t.cell F=some x):LZ N x.own∧LZ N x.old∧(x.there=true->LK N x.own):=h.ce _ (Mc hx)
theorem Mid.tell (m:Mid N L n s d D τ t c) (F v:Nat):Mid N L n s d D (τ.tell s F v) t {c with r:={c.r with aO:=c.r.aO++[(F,v)]}}:=by
 unfold St.tell;rw[m.ec];exact m.aK _ ⟨rfl,rfl⟩
theorem xV {F:Nat} (k:Nat):∀ (F:Nat) (τ:St) (c:dN),Mid N L n s d D τ t c->c.over=false->c.r.over=0->c.op.hi<=63->F<=64->c.r.aO.length<=F->Out N L n s d D (iE s k τ F):=by
 induction k with
 |zero=>
  intro F τ c m ho hr hh Z hp;refine⟨t,c,m,ho,hr,?_⟩;show xU N L t c (.fin (τ.c s).r);rw[m.ec];exact⟨hr,gy hp Z⟩
 |succ k ih=>
  intro F τ c m ho hr hh Z hp;unfold iE;rw[m.ec,m.et]
  split
  . exact⟨t,c,m,ho,hr,hr,gy hp Z⟩
  . rename_i hlt
    split
    . rename_i x hx
      cases hth:x.there with
      |true=>
       simp only[if_true];exact ih (F+1) _ _ (m.tell F (τ.valueOf x.own)) ho hr hh (by omega) (by simp;omega)
      |false=>
       simp only[Bool.false_eq_true,if_false];exact ih (F+1) _ c m ho hr hh (by omega) (by omega)
    . exact⟨t,c,m,ho,hr,by show F<64;omega,rfl,hh,hp⟩
theorem BL (t:bL):∀ (k i:Nat),i<=t.reads.length->t.need k i<=t.reads.length∧(k=t.reads.length - i->t.need k i<t.reads.length->t.need k i<t.reads.length)
 |0,i,h=>⟨h,fun _ h=>h⟩
 |k+1,i,h=>by
  refine⟨?_,fun _ h=>h⟩;unfold bL.need
  split
  . rename_i hh
    exact (BL t k (i+1) (by omega)).1
  . exact h
theorem Eg {i:Nat} (h:i<=t.aP.length):xU N L t c (jJ t i):=by
 unfold jJ
 split
 . trivial
 . show i<t.aP.length;omega
theorem Eh {α:Type} {l:List α} {i:Nat} {a:α} (h:i<l.length):l.getD i a∈l:=by
 rw[mM,zx h];exact List.getElem_mem _
theorem Aj (h:TX N L n t) {i:Nat} (hi:i<=t.reads.length):xU N L t c (dG t i):=by
 unfold dG;simp only;have h1:=(BL t (t.reads.length - i) i hi).1
 split
 . exact Eg (zz _)
 . exact⟨h.rd _ (Eh (by omega)),by show t.need _ i<_;omega⟩
theorem xW (m:Mid N L n s d D τ t c) (ho:c.over=false) (hr:c.r.over=0) {x:Bool} {G head:Nat} (hl:LZ N G) (Z:c.op.F<64) (hx:if x=true then (t.cell c.op.F).isSome=true else t.cell c.op.F=none∧LZ N head):Out N L n s d D (τ.slot s x G head):=by
 unfold St.slot
 by_cases h0:G=0
 . rw[aV h0]
   have m2:=m.take;have ht:=m.sh.take.2
   cases e:τ.take with
   |mk UT o=>
    rw[e] at m2 ht
    cases o with
    |none=>exact⟨t,c,m2,ho,hr,trivial⟩
    |some l=>
     refine⟨t,c,m2.vals _ _,ho,hr,ht l rfl,Z,hx⟩
 . rw[aR h0]
   exact⟨t,c,m.vals _ _,ho,hr,hl.of h0,Z,hx⟩
theorem Ak (m:Mid N L n s d D τ t c) (ho:c.over=false) (hr:c.r.over=0) {G head at_:Nat} (hl:LZ N G) (hh:LZ N head) (ha:LZ N at_) (Z:c.op.F<64) (hx:t.cell c.op.F=none):Out N L n s d D (τ.jd s G head at_):=by
 unfold St.jd
 split
 . exact xW m ho hr hl Z (by simp only[Bool.false_eq_true,if_false];exact⟨hx,hh⟩)
 . rename_i h0
   exact⟨t,c,m,ho,hr,hl,hh,ha.of h0,hx,Z⟩
theorem Ei (m:Mid N L n s d D τ t c) (ho:c.over=false) (hr:c.r.over=0) (G:Nat):Out N L (n+1) s d D (τ.lost G):=by
 unfold St.lost
 split
 . exact⟨t,c,m.give G,ho,hr,trivial⟩
 . exact⟨t,c,m.mono (oW _),ho,hr,trivial⟩
theorem oN {t t2:bL} {h:dJ} (hh:ig t c h) (e1:t2.cells=t.cells) (e2:t2.reads=t.reads):ig t2 c h:=by
 refine⟨hh.1,?_⟩;have:=hh.2
 cases e:h.thn with
 |get=>trivial
 |scan k=>rw[e] at this;exact this
 |change=>rw[e] at this;exact⟨this.1,by unfold bL.cell;rw[e1];exact this.2⟩
 |judge i l=>rw[e] at this;show i<t2.reads.length;rw[e2];exact this
theorem wK (m:Mid N L n s d D τ t c) (ho:c.over=false) (hr:c.r.over=0) {h:dJ} (hh:ig t c h) {G:Nat} (hl:LZ N G):Out N L (n+1) s d D (τ.thn s h G):=by
 obtain⟨F,at_,thn⟩:=h;obtain⟨Z,h2⟩:=hh;unfold St.thn
 cases thn with
 |get=>
  simp only;have m2:=m.read F G (G !=0) Z
  split
  . exact⟨_,c,m2,ho,hr,rfl,zz _⟩
  . exact⟨_,c,m2,ho,hr,rfl,zz _⟩
 |scan k=>
  obtain⟨rfl,hhi,hp⟩:=h2;simp only at Z hp hhi ⊢;have m2:=m.read k G false Z;unfold St.scan
  by_cases h0:G=0
  . rw[aV h0]
    exact xV (F:=0) _ (k+1) _ c m2 ho hr hhi (by omega) (by omega)
  . rw[aR h0]
    exact xV (F:=0) _ (k+1) _ _ (m2.tell k ((τ.read s k G false).valueOf G)) ho hr hhi (by omega) (by simp;omega)
 |change=>
  obtain⟨hkk,hx⟩:=h2;simp only at Z hkk ⊢;rw[m.ec];have hk2:c.op.F<64:=by omega
  split
  . exact⟨_,c,m.read _ G false hk2,ho,hr,rfl,zz _⟩
  split
  . exact⟨_,c,m.read _ G false hk2,ho,hr,rfl,zz _⟩
  split
  . exact⟨t,c,m.mono (oW _),ho,hr,.inl rfl,hx,hk2⟩
  . rename_i h0
    exact⟨t,c,m.mono (oW _),ho,hr,hl.of h0,hx,hk2⟩
 |judge i l=>
  simp only at h2 ⊢
  split
  . exact⟨t,c,m.mono (oW _),ho,hr,trivial⟩
  . refine⟨t,c,m.mono (oW _),ho,hr,?_⟩
    show xU N L t c (dG (τ.t s) (i+1));rw[m.et];exact Aj m.t1 h2
theorem Al (m:Mid N L n s d D τ t c) (ho:c.over=false) (hr:c.r.over=0) {h:dJ} (hh:ig t c h) {G:Nat} (hl:LZ N G):Out N L (n+1) s d D (τ.visit s h G):=by
 unfold St.visit
 split
 . exact wK m ho hr hh (.inl rfl)
 . rename_i h0
   exact⟨t,c,m.mono (oW _),ho,hr,hh,hl.of h0⟩
theorem Ej (m:Mid N L n s d D τ t c) (ho:c.over=false) (hr:c.r.over=0) {h:dJ} (hh:ig t c h) {G mb:Nat} (hl:LK N G) (hm:mb<=2000):Out N L (n+1) s d D (τ.seen s h G mb):=by
 unfold St.seen
 split
 . exact wK m ho hr hh (.inr hl)
 . exact⟨t,c,m.mono (oW _),ho,hr,hh,hl,hm⟩
end
section
variable {N L n s d:Nat} {D τ:St} {t:bL} {c:dN}
def kY (N L n s d:Nat) (D:St) (r:St×Option K):Prop:=match r.2 with
 |some k=>Out N L n s d D (r.1,k)
 |none=>∃ t c,Mid N L n s d D r.1 t c∧c.over=true∧c.waits=false∧((c.r.over=0∧c.r.aO.length<=64)∨((c.r.over=3∨c.r.over=4)∧c.r.aO=[]))
theorem Out.ran {r:St×K} (h:Out N L n s d D r):kY N L n s d D (r.1,some r.2):=h
theorem qx {w:Nat} (h:Wd w) (e:(rd w).1=2):(rd w).2<=2000:=h e
theorem Sh.slot (h:Sh N L n τ) {l:Nat} (hl:LK N l):Wd (τ.word (af l 0))∧Wd (τ.word (af l 1))∧LZ N (τ.word (af l 2)):=by
 have:=hl.ag;refine⟨(h.wd _).H ?_ ?_ ?_,(h.wd _).H ?_ ?_ ?_,(h.wd _).nx ?_ ?_ ?_⟩<;>(unfold af;omega)
theorem Sh.head (h:Sh N L n τ) {F:Nat} (Z:F<64):LZ N (τ.word (9+F)):=(h.wd _).hd (by omega) (by omega)
theorem Pt {x:Nat} (h:x<=1099511627776):Wd x:=by
 unfold Wd rd tm;rw[aV h];intro e;cases e
theorem uh:Wd ever:=by unfold Wd;decide
theorem Pw (h:TX N L n t):rd (mine t)=(2,t.id):=by
 have:=h.i1;have:=h.i2;unfold rd mine tm ever oo;rw[aR (by omega),aR (by omega),aV (by omega)];simp
theorem nX (h:TX N L n t):Wd (mine t):=by
 intro _;rw[Pw h];exact h.i2
theorem nY (h:TX N L n t):mine t<18446744073709551616:=by have:=h.i2;unfold mine oo;omega
theorem iT {l w v:Nat} (hl:LK N l) (hw:w<2) (hv:v<18446744073709551616) (hd:Wd v):Cu N L (af l w) v:=by
 have:=hl.ag;refine⟨hv,fun e=>?_,fun _ e=>?_,fun _ e=>?_,fun _ _ e=>?_,fun _ _ _=>hd⟩<;>(unfold af at e;omega)
theorem pM {l v:Nat} (hl:LK N l) (hv:LZ N v):Cu N L (af l 2) v:=by
 have:=hl.ag;refine⟨?_,fun e=>?_,fun _ e=>?_,fun _ e=>?_,fun _ _ _=>hv,fun _ _ e=>?_⟩
 . rcases hv with rfl|h
   . decide
   . exact h.u
 all_goals (unfold af at e;omega)
theorem pO {F v:Nat} (Z:F<64) (hv:LZ N v):Cu N L (9+F) v:=by
 refine⟨?_,fun e=>?_,fun _ e=>?_,fun _ _=>hv,fun e _ _=>?_,fun e _ _=>?_⟩
 . rcases hv with rfl|h
   . decide
   . exact h.u
 all_goals omega
theorem oO {id v:Nat} (hv:v<18446744073709551616):Cu N L (73+N*3+id) v:=by
 refine⟨hv,fun e=>?_,fun _ e=>?_,fun _ e=>?_,fun _ e _=>?_,fun _ e _=>?_⟩<;>omega
theorem Sh.place (h:Sh N L n τ) (id:Nat):τ.place id=73+N*3+id:=by unfold St.place;rw[h.sl]
theorem IA (s8:s<8) {v:Nat} (hv:v<=L) (hl:L<=1099511627776):Cu N L (1+s) v:=by
 refine⟨by omega,fun e=>?_,fun _ _=>hv,fun e _=>?_,fun e _ _=>?_,fun e _ _=>?_⟩<;>omega
theorem xX {x id:Nat} (hx:x<=L) (hl:L<=1099511627776) (hid:id<=2000):Cu N L 0 (aW x id):=by
 refine⟨by unfold aW;omega,fun _=>⟨by unfold ai aW;omega,by unfold aZ aW;omega⟩,fun e _=>?_,fun e _=>?_,fun e _ _=>?_,fun e _ _=>?_⟩<;>omega
theorem qU {x e:Nat} (hx:x<8) (he:e<=1099511627776):pack x e<18446744073709551616:=by unfold pack;omega
theorem Mid.dx (m:Mid N L n s d D τ t c) {w:Nat} (hw:ai w<=L):Mid N L n s (d+1) D (τ.dx w) t c:=by
 unfold St.dx;rw[m.sh.place];exact m.cB (oO (qU (by omega) (gy hw m.sh.l1)))
theorem qV (h:TX N L n t) (F:Nat) (x:kP) (h1:LZ N x.own) (h2:LZ N x.old) (h3:x.there=true->LK N x.own):TX N L (n+1) {t with cells:=(F,x)::t.cells,keys:=t.keys++[F]}:=by
 refine⟨h.i1,h.i2,h.op,h.bg,h.en,fun p hp=>?_,fun k Z=>?_,?_,h.rd,Nat.le_succ_of_le h.rn,h.bd,Nat.le_succ_of_le h.bn⟩
 . have hp':p∈(F,x)::t.cells:=hp
   rw[List.mem_cons] at hp'
   rcases hp' with rfl|hp'
   . exact⟨h1,h2,h3⟩
   . exact h.ce p hp'
 . have hk':k∈t.keys++[F]:=Z
   show ∃ y,((F,x)::t.cells).lookup k=some y;rw[List.lookup_cons]
   by_cases e:k=F
   . subst e;exact⟨x,by simp⟩
   . rw[beq_false_of_ne e]
     rw[List.mem_append] at hk'
     rcases hk' with hk'|hk'
     . exact h.ky k hk'
     . simp at hk';exact absurd hk' e
 . show (t.keys++[F]).length<=_
   rw[jR];have:=h.kn;simp;omega
theorem pg (l:List (Nat×kP)) (F:Nat) (x:kP) (k:Nat):(upd l F x).lookup k=(l.lookup k).map (fun y=>if k=F then x else y):=by
 unfold upd
 induction l with
 |nil=>rfl
 |cons a l ih=>
  obtain⟨k1,y⟩:=a
  by_cases h1:k1=F
  . subst h1
    simp only[List.map_cons,if_true];rw[List.lookup_cons,List.lookup_cons]
    by_cases h2:k=k1
    . subst h2;simp
    . rw[beq_false_of_ne h2];simpa using ih
  . simp only[List.map_cons,aR h1]
    rw[List.lookup_cons,List.lookup_cons]
    by_cases h2:k=k1
    . subst h2;simp[h1]
    . rw[beq_false_of_ne h2];simpa using ih
theorem qW (h:TX N L n t) (F:Nat) (x:kP) (h1:LZ N x.own) (h2:LZ N x.old) (h3:x.there=true->LK N x.own):TX N L n {t with cells:=upd t.cells F x}:=by
 refine⟨h.i1,h.i2,h.op,h.bg,h.en,fun p hp=>?_,fun k Z=>?_,h.kn,h.rd,h.rn,h.bd,h.bn⟩
 . have hp':p∈upd t.cells F x:=hp
   unfold upd at hp';rw[List.mem_map] at hp';obtain⟨q,hq,rfl⟩:=hp'
   split
   . exact⟨h1,h2,h3⟩
   . exact h.ce q hq
 . obtain⟨y,hy⟩:=h.ky k Z
   show ∃ y,(upd t.cells F x).lookup k=some y;rw[pg,show t.cells.lookup k=some y from hy];exact⟨_,rfl⟩
theorem BM (h:TX N L n t) (hl:L<=1099511627776) (D:St):∀ x∈eY D t,Cu N L x.at_ x.new∧73<=x.at_∧x.at_<73+N*3:=by
 intro x hx;unfold eY at hx;rw[List.mem_flatMap] at hx;obtain⟨F,Z,hx⟩:=hx;obtain⟨y,hy⟩:=h.ky F Z;rw[hy] at hx;simp only[Option.getD_some] at hx;obtain⟨ho,hd,-⟩:=h.cell hy;have he:t.aA<18446744073709551616:=by have:=h.en;omega
 have hw:Wd t.aA:=Pt (gy h.en hl);have hin:∀ l w,LK N l->w<2->Cu N L (af l w) t.aA∧73<=af l w∧af l w<73+N*3:=by
  intro l w hl hw2;have:=hl.ag;exact⟨iT hl hw2 he hw,by unfold af;omega,by unfold af;omega⟩
 rw[List.mem_append] at hx
 rcases hx with hx|hx
 . split at hx
   . rename_i h0
     rw[List.mem_cons] at hx
     rcases hx with rfl|hx
     . exact hin _ _ (ho.of h0) (by omega)
     . split at hx
       . cases hx
       . simp at hx;subst hx;exact hin _ _ (ho.of h0) (by omega)
   . cases hx
 . split at hx
   . rename_i h0
     simp at hx;subst hx;exact hin _ _ (hd.of h0) (by omega)
   . cases hx
theorem El (h:TX N L n t) (D:St):∀ x∈fV D t,Cu N L x.at_ x.new∧73<=x.at_∧x.at_<73+N*3:=by
 intro x hx;unfold fV at hx;rw[List.mem_flatMap] at hx;obtain⟨F,Z,hx⟩:=hx;obtain⟨y,hy⟩:=h.ky F Z;rw[hy] at hx;simp only[Option.getD_some] at hx;obtain⟨ho,hd,-⟩:=h.cell hy
 split at hx
 . rename_i h0
   simp at hx;subst hx;have:=(hd.of h0).ag;refine⟨iT (hd.of h0) (by omega) (by show ever<_;decide) uh,?_,?_⟩
   . show 73<=af y.old 1;unfold af;omega
   . show af y.old 1<73+N*3;unfold af;omega
 . cases hx
theorem Px (h:TX N L n t):TX N L n {t with over:=true}:=⟨h.i1,h.i2,h.op,h.bg,h.en,h.ce,h.ky,h.kn,h.rd,h.rn,h.bd,h.bn⟩
theorem Mid.dH (m:Mid N L n s d D τ t c) (e:Ev) (he:e.res.aO.length<=64:=by exact zz _):∃ t2,Mid N L (n+1) s d D (τ.dH s e) t2 c∧t2={t with over:=true}:=by
 unfold St.dH;rw[m.et]
 split
 . rename_i ho
   refine⟨t,m.mono (oW _),?_⟩
   cases t;simp at ho;simp[ho]
 . exact⟨_,(m.bK (Px m.t1)).event e,rfl⟩
set_option maxHeartbeats 1600000 in
theorem BN (m:Mid N L n s 0 D D t c) (ho:c.over=false) (hr:c.r.over=0) (hw:c.waits=false) {k:K} (Z:xU N L t c k):∃ d,d<=1∧kY N L (n+2) s d D (D.run s k):=by
 have mt:=m.tick;have et:=m.et;have ec:=m.ec
 cases k with
 |fin r=>
  refine⟨0,by omega,t,_,(m.mono (by omega)).aK {D.c s with r:=r,over:=true} ⟨by rw[ec],by rw[ec]⟩,rfl,by rw[ec];exact hw,.inl Z⟩
 |start h=>exact⟨1,by omega,(Al mt ho hr Z (m.sh.head Z.1)).mono (by omega)⟩
 |visit h G=>
  obtain⟨hh,hl⟩:=Z;refine⟨1,by omega,t,c,mt.mono (by omega),ho,hr,?_⟩;show xU N L t c (D.tick.kG s h G _);unfold St.kG
  split
  . exact⟨hh,hl,zz _⟩
  split
  . exact⟨hh,hl⟩
  . rename_i h2
    exact⟨hh,hl,qx (m.sh.slot hl).1 (Classical.byContradiction fun e=>h2 (.inl e))⟩
 |older h G=>
  obtain⟨hh,hl⟩:=Z;exact⟨1,by omega,(Al mt ho hr hh (m.sh.slot hl).2.2).mono (by omega)⟩
 |maker h G id=>
  obtain⟨hh,hl,hid⟩:=Z;refine⟨1,by omega,?_⟩;simp only[St.run]
  split
  . exact⟨t,c,mt.mono (by omega),ho,hr,hh,hl⟩
  split
  . exact⟨t,c,mt.mono (by omega),ho,hr,hh,hl,hid⟩
  . exact⟨t,c,mt.mono (by omega),ho,hr,hh,hl,zz _⟩
 |ended h G mb=>
  obtain⟨hh,hl,hm⟩:=Z;refine⟨1,by omega,?_⟩;simp only[St.run]
  split
  . exact⟨t,c,mt.mono (by omega),ho,hr,hh,hl⟩
  split
  . exact (Ej mt ho hr hh hl hm).mono (by omega)
  . rename_i h2
    exact⟨t,c,mt.mono (by omega),ho,hr,hh,hl,hm,qx (m.sh.slot hl).2.1 (Classical.byContradiction fun e=>h2 (.inl e))⟩
 |gW h G mb id=>
  obtain⟨hh,hl,hm,hid⟩:=Z;refine⟨1,by omega,?_⟩;simp only[St.run]
  split
  . exact (Ej mt ho hr hh hl hm).mono (by omega)
  split
  . obtain⟨t2,m2,e1,e2,-⟩:=mt.bind id hid
    exact⟨t2,c,m2.mono (by omega),ho,hr,oN hh e1 e2,hl⟩
  . exact⟨t,c,mt.mono (by omega),ho,hr,hh,hl⟩
 |seen h G mb=>
  obtain⟨hh,hl,hm⟩:=Z;refine⟨1,by omega,?_⟩;simp only[St.run]
  split
  . exact⟨t,c,mt.mono (by omega),ho,hr,hh⟩
  . split
    . obtain⟨t2,m2,e1,e2,-⟩:=mt.bind mb hm
      exact (wK m2 ho hr (oN hh e1 e2) (.inr hl)).mono (by omega)
    . exact (wK mt ho hr hh (.inr hl)).mono (by omega)
 |again en=>
  obtain⟨h1,h2,x,hx,hxo⟩:=Z;refine⟨1,by omega,?_⟩;have ex:D.x s c.op.F=x:=by unfold St.x;rw[et,hx];rfl
  simp only[St.run,ec,ex];have m1:=m.put (iT (w:=1) hxo (by omega) h1 h2);have m2:=m1.bK (qW m1.t1 c.op.F {x with there:=(c.op.kind !=4)} (m.t1.cell hx).1 (m.t1.cell hx).2.1 (fun _=>hxo));have e3:((D.put (af x.own 1) en).c s).op.kind=c.op.kind:=by rw[m1.ec]
  have e4:((D.put (af x.own 1) en).gu s c.op.F {x with there:=(c.op.kind !=4)})=((D.put (af x.own 1) en).bK s {t with cells:=upd t.cells c.op.F {x with there:=(c.op.kind !=4)}}):=by unfold St.gu;rw[m1.et]
  rw[e3,e4]
  split
  . exact⟨_,c,(m2.mono (by omega)).vals _ _,ho,hr,rfl,zz _⟩
  . exact⟨_,c,m2.mono (by omega),ho,hr,rfl,zz _⟩
 |own G=>
  obtain⟨hl,hx,hkk⟩:=Z;refine⟨1,by omega,?_⟩;simp only[St.run]
  split
  . exact⟨t,c,mt.mono (by omega),ho,hr,hl,hx,hkk⟩
  split
  . rename_i h2
    exact⟨t,c,mt.mono (by omega),ho,hr,hl,hx,hkk,qx (m.sh.slot hl).2.1 h2⟩
  . exact⟨t,c,mt.mono (by omega),ho,hr,trivial⟩
 |ib G w id=>
  obtain⟨hl,hx,hkk,hid⟩:=Z;refine⟨1,by omega,?_⟩;simp only[St.run]
  split
  . exact⟨t,c,mt.mono (by omega),ho,hr,trivial⟩
  . exact⟨t,c,mt.mono (by omega),ho,hr,hl,hx,hkk⟩
 |claim G w=>
  obtain⟨hl,hx,hkk⟩:=Z;refine⟨1,by omega,?_⟩;have m1:=m.cB (o:=w) (iT (L:=L) (w:=1) hl (by omega) (nY m.t1) (nX m.t1));simp only[St.run,et]
  split
  . exact⟨t,c,m1.mono (by omega),ho,hr,hl,hx,hkk⟩
  . have m2:=(m1.mono (oW n)).bK (qV m1.t1 c.op.F ⟨0,G,false⟩ (.inl rfl) (.inr hl) (by simp))
    have e1:(D.cB (af G 1) w (mine t)).bS s ((D.cB (af G 1) w (mine t)).c s).op.F ⟨0,G,false⟩=(D.cB (af G 1) w (mine t)).bK s {t with cells:=(c.op.F,⟨0,G,false⟩)::t.cells,keys:=t.keys++[c.op.F]}:=by
     unfold St.bS;rw[m1.et,m1.ec]
    rw[e1,m2.ec]
    split
    . exact⟨_,c,m2.mono (by omega),ho,hr,rfl,zz _⟩
    . refine (xW (m2.mono (by omega)) ho hr (.inl rfl) hkk ?_).ran
      simp only[if_true];show (List.lookup c.op.F ((c.op.F,_)::t.cells)).isSome=true;rw[List.lookup_cons];simp
 |fresh G=>
  obtain⟨hl,hx,hkk⟩:=Z;refine⟨1,by omega,?_⟩;simp only[St.run,ec];exact (Ak (mt.mono (by omega)) ho hr hl (m.sh.head hkk) (m.sh.head hkk) hkk hx).ran
 |next G head at_=>
  obtain⟨hl,hh,ha,hx,hkk⟩:=Z;refine⟨1,by omega,?_⟩;simp only[St.run];exact (Ak (mt.mono (by omega)) ho hr hl hh (m.sh.slot ha).2.2 hkk hx).ran
 |free G head at_=>
  obtain⟨hl,hh,ha,hx,hkk⟩:=Z;refine⟨1,by omega,?_⟩;simp only[St.run]
  split
  . exact⟨t,c,mt.mono (by omega),ho,hr,hl,hh,ha,hx,hkk⟩
  split
  . exact ((Ei mt ho hr G).mono (by omega)).ran
  . rename_i h2
    exact⟨t,c,mt.mono (by omega),ho,hr,hl,hh,ha,qx (m.sh.slot ha).1 (Classical.byContradiction fun e=>h2 e),hx,hkk⟩
 |dM G head at_ id=>
  obtain⟨hl,hh,ha,hid,hx,hkk⟩:=Z;refine⟨1,by omega,?_⟩;simp only[St.run]
  split
  . exact⟨t,c,mt.mono (by omega),ho,hr,hl,hh,ha,hx,hkk⟩
  . exact ((Ei mt ho hr G).mono (by omega)).ran
 |fB x G head=>
  obtain⟨hl,hkk,hx⟩:=Z;refine⟨1,by omega,?_⟩;simp only[St.run,et];exact⟨t,c,(m.put (iT hl (by omega) (nY m.t1) (nX m.t1))).mono (by omega),ho,hr,hl,hkk,hx⟩
 |dZ x G head=>
  obtain⟨hl,hkk,hx⟩:=Z;refine⟨1,by omega,?_⟩;simp only[St.run];refine⟨t,c,(m.put (iT hl (by omega) (by decide) uh)).mono (by omega),ho,hr,?_⟩
  cases x with
  |true=>exact⟨hl,hx,hkk⟩
  |false=>
   simp only[Bool.false_eq_true,if_false] at hx;exact⟨hl,hx.2,hx.1,hkk⟩
 |push G head=>
  obtain⟨hl,hh,hx,hkk⟩:=Z;refine⟨1,by omega,t,c,(m.put (pM hl hh)).mono (by omega),ho,hr,hl,hh,hx,hkk⟩
 |dL G head=>
  obtain⟨hl,hh,hx,hkk⟩:=Z;refine⟨1,by omega,?_⟩;have m1:=m.cB (o:=head) (pO (L:=L) hkk (.inr hl));simp only[St.run,ec]
  split
  . exact⟨t,c,m1.mono (by omega),ho,hr,.inr hl,hx,hkk⟩
  . have m2:=(m1.mono (oW n)).bK (qV m1.t1 c.op.F ⟨G,0,true⟩ (.inr hl) (.inl rfl) (fun _=>hl))
    have e1:(D.cB (9+c.op.F) head G).bS s c.op.F ⟨G,0,true⟩=(D.cB (9+c.op.F) head G).bK s {t with cells:=(c.op.F,⟨G,0,true⟩)::t.cells,keys:=t.keys++[c.op.F]}:=by
     unfold St.bS;rw[m1.et]
    rw[e1];exact⟨_,c,m2.mono (by omega),ho,hr,rfl,zz _⟩
 |over G=>
  obtain⟨hl,hx,hkk⟩:=Z;refine⟨1,by omega,t,c,mt.mono (by omega),ho,hr,?_⟩;rw[ec];exact⟨hl,m.sh.head hkk,hx,hkk⟩
 |iq G head=>
  obtain⟨hl,hh,hx,hkk⟩:=Z;exact⟨1,by omega,t,c,(m.put (pM hl hh)).mono (by omega),ho,hr,hl,hh,hx,hkk⟩
 |dQ G head=>
  obtain⟨hl,hh,hx,hkk⟩:=Z;refine⟨1,by omega,?_⟩;have m1:=m.cB (o:=head) (pO (L:=L) hkk (.inr hl));simp only[St.run,ec]
  split
  . exact⟨t,c,m1.mono (by omega),ho,hr,hl,hx,hkk⟩
  . obtain⟨x,YA⟩:=uz.1 hx
    have ex:(D.cB (9+c.op.F) head G).x s c.op.F=x:=by unfold St.x;rw[m1.et,YA];rfl
    rw[ex];have m2:=m1.bK (qW m1.t1 c.op.F {x with own:=G,there:=true} (.inr hl) (m.t1.cell YA).2.1 (fun _=>hl));have e4:((D.cB (9+c.op.F) head G).gu s c.op.F {x with own:=G,there:=true})=((D.cB (9+c.op.F) head G).bK s {t with cells:=upd t.cells c.op.F {x with own:=G,there:=true}}):=by unfold St.gu;rw[m1.et]
    rw[e4];exact⟨_,c,m2.mono (by omega),ho,hr,rfl,zz _⟩
 |draw=>
  refine⟨1,by omega,?_⟩;have hc:=(m.sh.wd 0).ck rfl;simp only[St.run]
  split
  . exact⟨t,c,mt.mono (by omega),ho,hr,trivial⟩
  . rename_i hlim
    have hlt:ai (D.word 0)<L:=by have:=m.sh.lm;have h2:¬ D.limit<=ai (D.word 0):=hlim;omega
    split
    . exact⟨t,c,mt.mono (by omega),ho,hr,hlt⟩
    . exact⟨t,c,mt.mono (by omega),ho,hr,(m.sh.wd 0).u,hc.2,hlt,hc.1⟩
 |ed w now=>
  obtain⟨h1,h2,h3,h4⟩:=Z;exact⟨1,by omega,t,c,(m.dx h4).mono (by omega),ho,hr,h3⟩
 |turn w now=>
  refine⟨1,by omega,?_⟩;have hn:now<L:=Z;have m1:=m.cB (o:=w) (xX (N:=N) (show now+1<=L by omega) m.sh.l1 m.t1.i2);simp only[St.run,et]
  split
  . exact⟨t,c,m1.mono (by omega),ho,hr,trivial⟩
  . have h:=m1.t1
    rw[m1.et];have m2:=(m1.bK (t2:={t with aA:=now+1}) ⟨h.i1,h.i2,h.op,h.bg,by show now+1<=L;omega,h.ce,h.ky,h.kn,h.rd,h.rn,h.bd,h.bn⟩).event {kind:=3,t:=t.id,n:=now+1};exact⟨_,c,m2.mono (show n+1<=n+2 by omega),ho,hr,trivial⟩
 |dR=>
  refine⟨1,by omega,?_⟩;have he:ai (aW t.aA t.id)=t.aA:=by unfold ai aW;have:=m.t1.i2;omega
  have m1:=m.dx (w:=aW t.aA t.id) (by rw[he];exact m.t1.en);simp only[St.run,et];refine⟨t,c,m1.mono (by omega),ho,hr,?_⟩;rw[m1.et];exact Aj m1.t1 (zz _)
 |wait i=>
  refine⟨1,by omega,?_⟩;have hi:i<t.aP.length:=Z;simp only[St.run]
  split
  . refine⟨t,c,mt.mono (by omega),ho,hr,?_⟩
    show xU N L t c (jJ (D.tick.t s) (i+1));rw[mt.et];exact Eg hi
  split
  . exact⟨t,c,mt.mono (by omega),ho,hr,trivial⟩
  . rw[mt.ec]
    exact⟨t,_,(mt.mono (by omega)).aK {c with waits:=true} ⟨rfl,rfl⟩,ho,hr,hi⟩
 |cZ=>
  refine⟨1,by omega,?_⟩;simp only[St.run,et];have m1:=m.put (i:=D.place t.id) (v:=pack 3 t.aA) (by rw[m.sh.place];exact oO (qU (by omega) (gy m.t1.en m.sh.l1)));obtain⟨t2,m2,rfl⟩:=m1.dH {kind:=5,t:=t.id};exact⟨_,c,m2.mono (by omega),ho,hr,by simp,rfl,BM m.t1 m.sh.l1 _⟩
 |abort e aQ=>
  refine⟨1,by omega,?_⟩;simp only[St.run,et];have m1:=m.put (i:=D.place t.id) (v:=pack 4 t.aA) (by rw[m.sh.place];exact oO (qU (by omega) (gy m.t1.en m.sh.l1)));obtain⟨t2,m2,rfl⟩:=m1.dH {kind:=6,t:=t.id,res:={aQ:=aQ}};exact⟨_,c,m2.mono (by omega),ho,hr,by simp,rfl,El m.t1 _⟩
 |turns l r=>
  obtain⟨h1,h2,h3⟩:=Z
  cases l with
  |nil=>
   refine⟨1,by omega,?_⟩;have m1:=m.put (i:=1+s) (v:=0) (IA m.s8 (zz _) m.sh.l1);exact⟨t,_,(m1.mono (by omega)).aK {(D.put (1+s) 0).c s with r:=r,over:=true} ⟨by rw[m1.ec],by rw[m1.ec]⟩,rfl,by rw[m1.ec];exact hw,.inr ⟨h1,h2⟩⟩
  |cons x l=>
   refine⟨1,by omega,?_⟩;have hx:=(h3 x nK).1;simp only[St.run];refine⟨t,c,?_,ho,hr,h1,h2,fun y hy=>h3 y (qg _ hy)⟩
   split
   . exact (m.put hx).mono (by omega)
   . exact (m.cB hx).mono (by omega)
end
section
variable {N L n s d:Nat} {D τ:St} {t:bL} {c:dN}
theorem jN {l:Nat} (h:LK N l) (hs:D.aF=N):vl D l=true:=by
 unfold vl;rw[hs];simp only[il,zd];exact⟨⟨h.lo,h.hi⟩,h.u⟩
theorem qF {l:Nat} (h:LZ N l) (hs:D.aF=N):Kq D l=true:=by
 unfold Kq
 rcases h with rfl|h
 . rfl
 . rw[jN h hs];simp
theorem iM (h:Sh N L n D) (i:Nat):small D i=true:=by unfold small;simp only[zd];exact (h.wd i).u
theorem lq (h:Sh N L n D) (hn:n<999990):lh D=true:=by
 unfold lh;simp only[il,zd,List.all_eq_true];have h1:=h.bO.len;have h2:=h.n1;have h3:=h.wn;refine⟨⟨⟨by omega,fun i hi=>by rw[h.sl];exact (h.bO.fr i hi).1⟩,fun p hp=>?_⟩,by omega⟩;obtain⟨i,hi,rfl⟩:=List.mem_iff_getElem.1 hp;have:=h.bO.tg i;rw[mM,zx hi] at this;exact this
theorem Am (h:TX N L n t) (hs:D.aF=N):uN D t=true:=by
 unfold uN;rw[List.all_eq_true];intro k Z;obtain⟨x,hx⟩:=h.ky k Z;rw[hx];simp only[il];exact⟨qF (h.cell hx).1 hs,qF (h.cell hx).2.1 hs⟩
theorem Ao (h:TX N L n t) (hs:D.aF=N):uO D t=true:=by
 unfold uO;rw[List.all_eq_true];intro p hp;have:=(h.ce p hp).2.2
 cases e:p.2.there with
 |false=>rfl
 |true=>rw[e] at this;simp[jN (this rfl) hs]
theorem oP (m:Mid N L n s d D τ t c) (hn:n<999990) {h:dJ} (hh:ig t c h) {G:Nat} (hl:LZ N G):tV τ s h G=true:=by
 obtain⟨F,at_,thn⟩:=h;obtain⟨Z,h2⟩:=hh;unfold tV;rw[m.et,m.ec];have hr:=m.t1.rn;rw[show decide (t.reads.length<1000000)=true by simp;omega,Bool.true_and]
 cases thn with
 |get=>exact qF hl m.sh.sl
 |scan k=>
  obtain⟨rfl,hhi,hp⟩:=h2;simp only at Z hp;simp only[il,zd];exact⟨⟨⟨⟨⟨trivial,qF hl m.sh.sl⟩,by omega⟩,hhi⟩,Ao m.t1 m.sh.sl⟩,by omega⟩
 |change=>simp only[zd];exact h2.1
 |judge i l=>simp only[zd];exact h2
set_option maxHeartbeats 800000 in
theorem RP (m:Mid N L n s 0 D D t c) (hct:D.count<3000000000000000000) (hn:n<999980) {k:K} (Z:xU N L t c k):Ru D s k=true:=by
 have mt:=m.tick;have sl:=m.sh.sl;have h1:=m.t1.i1;have h2:=m.t1.i2;have hb:=m.t1.bn;have hky:=m.t1.kn;have htl:=m.sh.tl;have hrn:=m.t1.rn;have hen:=m.t1.en;have hl1:=m.sh.l1;have Md:qP D s=true:=by
  unfold qP;rw[m.et];simp only[il,zd];omega
 unfold Ru;rw[show decide (D.count<3000000000000000000)=true by simpa using hct,Bool.true_and];rw[m.et,m.ec]
 cases k with
 |fin r=>rfl
 |start h=>simp only[il,zd,qd];exact⟨Z.1,.inr (oP m (by omega) Z (.inl rfl))⟩
 |visit h G=>simp only[il];exact⟨jN Z.2 sl,iM m.sh _⟩
 |older h G=>simp only[il,qd];exact⟨jN Z.2 sl,.inr (oP m (by omega) Z.1 (.inl rfl))⟩
 |maker h G id=>simp only[il,zd];exact⟨Z.2.2,iM m.sh _⟩
 |ended h G mb=>simp only[il,qd];exact⟨⟨jN Z.2.1 sl,iM m.sh _⟩,.inr (oP m (by omega) Z.1 (.inr Z.2.1))⟩
 |gW h G mb id=>simp only[il,zd,qd];exact⟨⟨⟨Z.2.2.2,iM m.sh _⟩,Md⟩,.inr (oP m (by omega) Z.1 (.inr Z.2.1))⟩
 |seen h G mb=>
  simp only[il,zd];refine⟨⟨⟨Z.2.2,iM m.sh _⟩,Md⟩,?_⟩
  split
  . obtain⟨t2,m2,e1,e2,-⟩:=mt.bind mb Z.2.2
    exact oP m2 (by omega) (oN Z.1 e1 e2) (.inr Z.2.1)
  . exact oP mt (by omega) Z.1 (.inr Z.2.1)
 |again e=>
  obtain⟨-,-,x,hx,hxo⟩:=Z;simp only[hx];exact jN hxo sl
 |own G=>simp only[il];exact⟨jN Z.1 sl,iM m.sh _⟩
 |ib G w id=>simp only[il,zd];exact⟨Z.2.2.2,iM m.sh _⟩
 |claim G w=>simp only[il,zd];exact⟨⟨⟨⟨⟨jN Z.1 sl,h1⟩,by omega⟩,by rw[Z.2.1];rfl⟩,by omega⟩,lq m.sh (by omega)⟩
 |fresh G=>simp only[il,zd];exact⟨⟨qF Z.1 sl,Z.2.2⟩,lq m.sh (by omega)⟩
 |next G head at_=>simp only[il,zd];exact⟨⟨qF Z.1 sl,jN Z.2.2.1 sl⟩,lq m.sh (by omega)⟩
 |free G head at_=>simp only[il,zd];exact⟨⟨⟨qF Z.1 sl,jN Z.2.2.1 sl⟩,lq m.sh (by omega)⟩,iM m.sh _⟩
 |dM G head at_ id=>simp only[il,zd];exact⟨⟨⟨qF Z.1 sl,Z.2.2.2.1⟩,iM m.sh _⟩,lq m.sh (by omega)⟩
 |fB x G head=>simp only[il,zd];exact⟨⟨jN Z.1 sl,h1⟩,by omega⟩
 |dZ x G head=>exact jN Z.1 sl
 |push G head=>exact jN Z.1 sl
 |dL G head=>simp only[il,zd];exact⟨⟨Z.2.2.2,by rw[Z.2.2.1];rfl⟩,by omega⟩
 |over G=>simp only[zd];exact Z.2.2
 |iq G head=>exact jN Z.1 sl
 |dQ G head=>simp only[il,zd];exact⟨Z.2.2.2,Z.2.2.1⟩
 |draw=>simp only[zd];exact (m.sh.wd 0).u
 |ed w now=>simp only[il,zd];exact⟨Z.1,Z.2.1⟩
 |turn w now=>
  have hn:now<L:=Z;simp only[il,zd];omega
 |dR=>simp only[il,zd];omega
 |wait i=>
  have hi:i<t.aP.length:=Z;simp only[zx hi];simp only[il,zd];exact⟨⟨m.t1.bd _ (List.getElem_mem _),iM m.sh _⟩,by omega⟩
 |cZ=>simp only[il,zd];exact⟨⟨⟨⟨by omega,h2⟩,by omega⟩,Am m.t1 sl⟩,by omega⟩
 |abort e r=>simp only[il,zd];exact⟨⟨⟨⟨⟨by omega,h1⟩,h2⟩,by omega⟩,Am m.t1 sl⟩,by omega⟩
 |turns l r=>
  cases l with
  |nil=>rfl
  |cons x l=>
   have:=Z.2.2 x nK;simp only[zd];rw[m.sh.nw];omega
theorem Ap (h1:D.calls.length=8) (h2:τ.calls.length=8) (h:∀ q,q≠s->τ.calls.getD q none=D.calls.getD q none):jL D τ s=true:=by
 unfold jL;simp only[il,zd,List.all_eq_true,qd,beq_iff_eq];refine⟨⟨h1,h2⟩,fun q _=>?_⟩
 by_cases e:q=s
 . exact .inl e
 . exact .inr (h q e)
theorem Sh.same {bB:St} (h:Sh N L n D) (e1:bB.aF=D.aF) (e2:bB.limit=D.limit) (e3:bB.words=D.words) (e4:bB.tags=D.tags) (e5:bB.values=D.values) (e6:bB.aj.length=8) (e7:bB.calls.length=8) (e8:bB.aB=D.aB) (e9:bB.free=D.free) (e10:bB.listed=D.listed) (e11:bB.ja=D.ja) (e12:bB.aT=D.aT):Sh N L n bB:=by
 refine⟨by rw[e1];exact h.sl,by rw[e2];exact h.lm,h.n1,h.l1,by rw[e3];exact h.nw,by rw[e4];exact h.nt,by rw[e5];exact h.nv,e6,e7,by rw[e8];exact h.md,fun i=>?_,⟨fun i hi=>?_,by rw[e9];exact h.bO.nd,fun i=>by rw[e4];exact h.bO.tg i,fun e=>?_,fun e=>?_,fun e=>?_⟩,by rw[e11];exact h.wn,by rw[e12];exact h.tl,by rw[e12];exact h.tp⟩
 . have:bB.word i=D.word i:=by unfold St.word;rw[e3]
   rw[this];exact h.wd i
 . rw[e9] at hi;rw[e4];exact h.bO.fr i hi
 . rw[e10] at e;rw[e9,e4];exact h.bO.ls e
 . rw[e10] at e;rw[e11,e4];exact h.bO.w0 e
 . rw[e10] at e;rw[e9,e11,e4];exact h.bO.sm e
theorem SX.same {n':Nat} {bB:St} (h:SX N L n D) (e1:bB.sw=D.sw) (e2:bB.low=D.low) (e3:bB.cut=D.cut) (e4:bB.cuts=D.cuts) (e5:D.seq<=bB.seq) (hn:n<=n'):SX N L n' bB:=
 ⟨fun x hx=>h.so x (by rw[<-e1];exact hx),by rw[e2];exact h.lo,fun p hp=>by rw[e3] at hp;exact⟨(h.cu p hp).1,gy (h.cu p hp).2 e5⟩,by rw[e3,e4];exact h.cn,by rw[e4];exact gy h.cb hn⟩
theorem WF.mid (h:WF N L n D) (hs:s<8) {c:dN} (hc:D.calls.getD s none=some c):∃ t k,c.k=some k∧D.aj.getD s none=some t∧Mid N L n s 0 (D.aK s {c with waits:=false}) (D.aK s {c with waits:=false}) t {c with waits:=false}∧c.over=false∧c.r.over=0∧xU N L t {c with waits:=false} k:=by
 obtain⟨t,ht,hC⟩:=h.cx s c hc;obtain⟨k,Z,hkk⟩:=hC.k;refine⟨t,k,Z,ht,⟨hs,h.sh.aK s _,ht,?_,h.tx s t ht,hC.op,fun _ _=>rfl,fun _ _=>rfl,rfl,rfl,rfl,rfl,⟨rfl,rfl,rfl,rfl⟩,?_,?_⟩,hC.ov,hC.ro,?_⟩
 . show (D.calls.set s _).getD s none=_
   rw[aS _ _ _ _ (by rw[h.sh.c8];exact hs),aV rfl]
 . unfold St.c
   rw[show (D.aK s {c with waits:=false}).calls.getD s none=_ from aS _ _ _ _ (by rw[h.sh.c8];exact hs),aV rfl];exact⟨rfl,rfl⟩
 . show t.id=((D.aj.getD s none).getD default).id
   rw[ht];rfl
 . cases k<;>exact hkk
theorem xY {k:K} {aD:St} {ok:Option K} {c2:dN} (ht:D.aj.getD s none=some t) (hc:D.calls.getD s none=some c) (Z:c.k=some k) (e:(D.aK s {c with waits:=false}).run s k=(aD,ok)) (hc2:aD.calls.getD s none=some c2)
 (hh:Ru (D.aK s {c with waits:=false}) s k=true∧jL D aD s=true∧D.count<=aD.count∧aD.count - D.count<1000000∧aD.aI<1000000000000000000∧D.count<3000000000000000000):jg D s=ll D s aD ok c2:=by
 unfold jg;rw[ht,hc];simp only
 split
 . rename_i k' hk'
   rw[Z] at hk';obtain rfl:=zj hk';rw[e];simp only;rw[hc2];simp only;rw[aV hh]
 . rename_i h
   rw[Z] at h
   cases h
theorem WF.step (h:WF N L n D) (hs:s<8) {c:dN} (hc:D.calls.getD s none=some c) (hct:D.count<2999999999999999999) (hlk:D.aI<999999999999999999) (hn:n<999970):
 ∃ bB kd r,jg D s=some (bB,kd,r)∧WF N L (n+3) bB∧D.count<=bB.count∧bB.count<=D.count+1∧D.aI<=bB.aI∧bB.aI<=D.aI+1∧bB.seq=D.seq∧bB.aB=D.aB∧1<=kd∧kd<=3
  ∧(kd=3∨∃ c',bB.calls.getD s none=some c'∧c'.waits=decide (kd=2))∧(kd=3->bB.calls.getD s none=none∧(r.over=0↔(bB.aj.getD s none).isSome=true)∧(r.over=0∨r.over=3∨r.over=4))∧(kd≠3->r={})
  ∧(∀ q,q≠s->bB.aj.getD q none=D.aj.getD q none∧bB.calls.getD q none=D.calls.getD q none)∧((bB.aj.getD s none).isSome=true∨kd=3)∧(∀ u u2,D.aj.getD s none=some u->bB.aj.getD s none=some u2->u2.id=u.id):=by
 obtain⟨t,k,Z,ht,m,ho,hr,hkk⟩:=h.mid hs hc;have Xc:=RP m (show D.count<_ by omega) (by omega) hkk;obtain⟨d,hd,wy⟩:=BN m ho hr rfl hkk
 cases e:(D.aK s {c with waits:=false}).run s k with
 |mk aD ok=>
 rw[e] at wy;have hrest:∀ t2 c2,Mid N L (n+2) s d (D.aK s {c with waits:=false}) aD t2 c2->Ru (D.aK s {c with waits:=false}) s k=true∧jL D aD s=true∧D.count<=aD.count∧aD.count - D.count<1000000∧aD.aI<1000000000000000000∧D.count<3000000000000000000:=by
  intro t2 c2 m2;have e1:aD.count=D.count+d:=m2.ct;have e2:aD.aI=D.aI:=m2.lk;refine⟨Xc,Ap h.sh.c8 m2.sh.c8 (fun q hq=>?_),by omega,by omega,by omega,by omega⟩;rw[m2.oc q hq];show (D.calls.set s _).getD q none=_;rw[aS _ _ _ _ (by rw[h.sh.c8];exact hs),aR hq]
 have hoc:∀ t2 c2,Mid N L (n+2) s d (D.aK s {c with waits:=false}) aD t2 c2->∀ q,q≠s->aD.aj.getD q none=D.aj.getD q none∧aD.calls.getD q none=D.calls.getD q none:=by
  intro t2 c2 m2 q hq;refine⟨m2.ox q hq,?_⟩;rw[m2.oc q hq];show (D.calls.set s _).getD q none=_;rw[aS _ _ _ _ (by rw[h.sh.c8];exact hs),aR hq]
 have hT:∀ t2 c2,Mid N L (n+2) s d (D.aK s {c with waits:=false}) aD t2 c2->∀ q u,aD.aj.getD q none=some u->TX N L (n+3) u:=by
  intro t2 c2 m2 q u hu
  by_cases hq:q=s
  . subst hq
    rw[m2.tx] at hu;obtain rfl:=zj hu;exact m2.t1.mono (by omega)
  . rw[m2.ox q hq] at hu
    exact (h.tx q u hu).mono (by omega)
 have Xd:∀ t2 c2,Mid N L (n+2) s d (D.aK s {c with waits:=false}) aD t2 c2->∀ q u,aD.aj.getD q none=some u->u.id<=aD.aB:=by
  intro t2 c2 m2 q u hu;rw[m2.md]
  by_cases hq:q=s
  . subst hq
    rw[m2.tx] at hu;obtain rfl:=zj hu;rw[m2.tq,<-m.tq];exact h.ti q t ht
  . rw[m2.ox q hq] at hu
    exact h.ti q u hu
 have hC:∀ t2 c2,Mid N L (n+2) s d (D.aK s {c with waits:=false}) aD t2 c2->∀ q u,q≠s->aD.calls.getD q none=some u->∃ v,aD.aj.getD q none=some v∧CX N L v u:=by
  intro t2 c2 m2 q u hq hu;rw[(hoc t2 c2 m2 q hq).2] at hu;obtain⟨v,hv,hx⟩:=h.cx q u hu;exact⟨v,by rw[(hoc t2 c2 m2 q hq).1];exact hv,hx⟩
 have hS:∀ t2 c2,Mid N L (n+2) s d (D.aK s {c with waits:=false}) aD t2 c2->∀ {Ir:St},Ir.sw=aD.sw->Ir.low=aD.low->Ir.cut=aD.cut->Ir.cuts=aD.cuts->Ir.seq=aD.seq->SX N L (n+3) Ir:=by
  intro t2 c2 m2 Ir e1 e2 e3 e4 e5;obtain⟨f1,f2,f3,f4⟩:=m2.sp;exact h.sx.same (e1.trans f1) (e2.trans f2) (e3.trans f3) (e4.trans f4) (by rw[e5,m2.sq];exact zr _) (by omega)
 have hid:∀ t2 c2,Mid N L (n+2) s d (D.aK s {c with waits:=false}) aD t2 c2->∀ u u2,D.aj.getD s none=some u->aD.aj.getD s none=some u2->u2.id=u.id:=by
  intro t2 c2 m2 u u2 hu hu2;rw[m2.tx] at hu2;obtain rfl:=zj hu2;rw[ht] at hu;obtain rfl:=zj hu;rw[m2.tq,<-m.tq]
 cases ok with
 |some k'=>
  obtain⟨t2,c2,m2,h1,h2,h3⟩:=wy;simp only at m2;have e1:aD.count=D.count+d:=m2.ct;have e2:aD.aI=D.aI:=m2.lk;have sH:s<aD.calls.length:=by rw[m2.sh.c8];exact hs
  rw[xY ht hc Z e m2.ca (hrest t2 c2 m2)];unfold ll;simp only;rw[aV h1];refine⟨_,_,_,rfl,⟨?_,?_,?_,?_,?_⟩,?_,?_,?_,?_,?_,?_,?_,?_,?_,?_,?_,?_,?_,?_⟩
  . exact ((m2.sh.aK s {c2 with k:=some k'}).mono (by omega)).same rfl rfl rfl rfl rfl (by show (aD.aj).length=8;exact m2.sh.t8) (by show (aD.calls.set s _).length=8;rw[rz];exact m2.sh.c8) rfl rfl rfl rfl rfl
  . exact hS t2 c2 m2 rfl rfl rfl rfl rfl
  . exact hT t2 c2 m2
  . exact Xd t2 c2 m2
  . intro q u hu
    change (aD.calls.set s _).getD q none=some u at hu;rw[aS _ _ _ _ sH] at hu
    split at hu
    . rename_i hq
      subst hq;obtain rfl:=zj hu;exact⟨t2,m2.tx,m2.op,h1,h2,k',rfl,by cases k'<;>exact h3⟩
    . rename_i hq
      exact hC t2 c2 m2 q u hq hu
  . show D.count<=aD.count;omega
  . show aD.count<=D.count+1;omega
  . show D.aI<=aD.aI+(aD.count - D.count);omega
  . show aD.aI+(aD.count - D.count)<=D.aI+1;omega
  . exact m2.sq
  . exact m2.md
  . cases c2.waits<;>simp
  . cases c2.waits<;>simp
  . right
    refine⟨{c2 with k:=some k'},?_,?_⟩
    . show (aD.calls.set s _).getD s none=_
      rw[aS _ _ _ _ sH,aV rfl]
    . show c2.waits=_
      cases c2.waits<;>simp
  . intro h3;cases hw:c2.waits<;>simp[hw] at h3
  . intro _;rfl
  . intro q hq
    refine⟨(hoc t2 c2 m2 q hq).1,?_⟩;show (aD.calls.set s _).getD q none=_;rw[aS _ _ _ _ sH,aR hq];exact (hoc t2 c2 m2 q hq).2
  . left
    show (aD.aj.getD s none).isSome=true;rw[m2.tx];rfl
  . exact hid t2 c2 m2
 |none=>
  obtain⟨t2,c2,m2,h1,h2,h3⟩:=wy;simp only at m2;have e1:aD.count=D.count+d:=m2.ct;have e2:aD.aI=D.aI:=m2.lk;have sH:s<aD.calls.length:=by rw[m2.sh.c8];exact hs
  have wu:s<aD.aj.length:=by rw[m2.sh.t8];exact hs
  have htl:=m2.sh.tl;rw[xY ht hc Z e m2.ca (hrest t2 c2 m2)];unfold ll;simp only;have hp:c2.r.aO.length<=1000000:=by
   rcases h3 with h3|h3
   . have:=h3.2;omega
   . rw[h3.2];simp
  rw[aV ⟨h2,h1,hp⟩];have Aq:∀ x q,((aD.calls.set s x).set s none).getD q none=if q=s then none else aD.calls.getD q none:=by
   intro x q;rw[List.set_set,aS _ _ _ _ sH]
  rcases h3 with ⟨h3,h4⟩|⟨h3,h4⟩
  . rw[aV h3,m2.tx]
    simp only;rw[aV (by omega)];refine⟨_,_,_,rfl,⟨?_,?_,?_,?_,?_⟩,?_,?_,?_,?_,?_,?_,?_,?_,?_,?_,?_,?_,?_,?_⟩
    . refine Sh.event (n:=n+2) ?_ _ h4
      exact (m2.sh.aK s {c2 with k:=none}).same rfl rfl rfl rfl rfl (by show (aD.aj).length=8;exact m2.sh.t8) (by show ((aD.calls.set s _).set s none).length=8;rw[rz,rz];exact m2.sh.c8) rfl rfl rfl rfl rfl
    . exact hS t2 c2 m2 rfl rfl rfl rfl rfl
    . exact hT t2 c2 m2
    . exact Xd t2 c2 m2
    . intro q u hu
      change ((aD.calls.set s _).set s none).getD q none=some u at hu;rw[Aq] at hu
      split at hu
      . cases hu
      . rename_i hq
        exact hC t2 c2 m2 q u hq hu
    . show D.count<=aD.count;omega
    . show aD.count<=D.count+1;omega
    . show D.aI<=aD.aI+(aD.count - D.count);omega
    . show aD.aI+(aD.count - D.count)<=D.aI+1;omega
    . exact m2.sq
    . exact m2.md
    . omega
    . omega
    . exact .inl rfl
    . intro _
      refine⟨?_,?_⟩
      . show ((aD.calls.set s _).set s none).getD s none=none
        rw[Aq,aV rfl]
      . refine⟨⟨fun _=>?_,fun _=>h3⟩,.inl h3⟩
        show (aD.aj.getD s none).isSome=true;rw[m2.tx];rfl
    . intro e;exact absurd rfl e
    . intro q hq
      refine⟨(hoc t2 c2 m2 q hq).1,?_⟩;show ((aD.calls.set s _).set s none).getD q none=_;rw[Aq,aR hq];exact (hoc t2 c2 m2 q hq).2
    . exact .inr rfl
    . exact hid t2 c2 m2
  . have h3':c2.r.over≠0:=by omega
    rw[aR h3',aV h4];refine⟨_,_,_,rfl,⟨?_,?_,?_,?_,?_⟩,?_,?_,?_,?_,?_,?_,?_,?_,?_,?_,?_,?_,?_,?_⟩
    . exact ((m2.sh.aK s {c2 with k:=none}).mono (by omega)).same rfl rfl rfl rfl rfl (by show (aD.aj.set s none).length=8;rw[rz];exact m2.sh.t8) (by show ((aD.calls.set s _).set s none).length=8;rw[rz,rz];exact m2.sh.c8) rfl rfl rfl rfl rfl
    . exact hS t2 c2 m2 rfl rfl rfl rfl rfl
    . intro q u hu
      change (aD.aj.set s none).getD q none=some u at hu;rw[aS _ _ _ _ wu] at hu
      split at hu
      . cases hu
      . exact hT t2 c2 m2 q u hu
    . intro q u hu
      change (aD.aj.set s none).getD q none=some u at hu;rw[aS _ _ _ _ wu] at hu
      split at hu
      . cases hu
      . exact Xd t2 c2 m2 q u hu
    . intro q u hu
      change ((aD.calls.set s _).set s none).getD q none=some u at hu;rw[Aq] at hu
      split at hu
      . cases hu
      . rename_i hq
        obtain⟨v,hv,hx⟩:=hC t2 c2 m2 q u hq hu;refine⟨v,?_,hx⟩;show (aD.aj.set s none).getD q none=some v;rw[aS _ _ _ _ wu,aR hq];exact hv
    . show D.count<=aD.count;omega
    . show aD.count<=D.count+1;omega
    . show D.aI<=aD.aI+(aD.count - D.count);omega
    . show aD.aI+(aD.count - D.count)<=D.aI+1;omega
    . exact m2.sq
    . exact m2.md
    . omega
    . omega
    . exact .inl rfl
    . intro _
      refine⟨?_,?_⟩
      . show ((aD.calls.set s _).set s none).getD s none=none
        rw[Aq,aV rfl]
      . refine⟨⟨fun e=>absurd e h3',fun e=>?_⟩,.inr h3⟩
        change ((aD.aj.set s none).getD s none).isSome=true at e;rw[aS _ _ _ _ wu,aV rfl] at e
        cases e
    . intro e;exact absurd rfl e
    . intro q hq
      refine⟨?_,?_⟩
      . show (aD.aj.set s none).getD q none=_
        rw[aS _ _ _ _ wu,aR hq];exact (hoc t2 c2 m2 q hq).1
      . show ((aD.calls.set s _).set s none).getD q none=_
        rw[Aq,aR hq];exact (hoc t2 c2 m2 q hq).2
    . exact .inr rfl
    . intro u u2 hu hu2
      change (aD.aj.set s none).getD s none=some u2 at hu2;rw[aS _ _ _ _ wu,aV rfl] at hu2
      cases hu2
end
section
variable {N L n s d:Nat} {D τ:St} {t:bL} {c:dN}
theorem Eo {o:En.Op} (h:p9 o=true):o.F<64∧o.hi<=63∧1<=o.kind∧o.kind<=7:=by
 obtain⟨k,F,hi,v⟩:=o;unfold p9 at h;simp only at h
 split at h
 all_goals (try (simp only[il,zd,beq_iff_eq] at h))
 all_goals (try (simp only;omega))
 cases h
theorem uX (m:Mid N L n s d D τ t c) (ho:c.over=false) (hr:c.r={}):Out N L n s d D (τ.first s):=by
 obtain⟨Z,hh,hk1,ZO⟩:=Eo m.op;have hro:c.r.over=0:=by rw[hr]
 unfold St.first;rw[m.ec,m.et];simp only
 split
 . split
   . split
     . exact⟨t,c,m,ho,hro,rfl,zz _⟩
     . exact⟨t,c,m,ho,hro,rfl,zz _⟩
   . exact⟨t,c,m,ho,hro,Z,trivial⟩
 . unfold St.scan
   exact xV (F:=0) _ _ _ c m ho hro hh (by omega) (by rw[hr];simp)
 . exact⟨t,c,m,ho,hro,trivial⟩
 . exact⟨t,c,m,ho,hro,trivial⟩
 . split
   . rename_i x hx
     split
     . exact⟨t,c,m,ho,hro,rfl,zz _⟩
     split
     . exact⟨t,c,m,ho,hro,rfl,zz _⟩
     split
     . exact xW m ho hro (.inl rfl) Z (by simp only[if_true];rw[hx];rfl)
     . rename_i h0
       refine⟨t,c,m,ho,hro,?_,?_,x,hx,(m.t1.cell hx).1.of h0⟩
       . show (if c.op.kind=4 then mine t else ever)<_
         split
         . exact nY m.t1
         . decide
       . show Wd (if c.op.kind=4 then mine t else ever)
         split
         . exact nX m.t1
         . exact uh
   . rename_i hx
     exact⟨t,c,m,ho,hro,Z,rfl,hx⟩
theorem Gz (m:Mid N L n s d D τ t c) (hr:c.r={}) (hn:n<999980):nV τ s=true:=by
 obtain⟨Z,hh,hk1,ZO⟩:=Eo m.op;have h1:=m.t1.i1;have h2:=m.t1.i2;have hw:nV.qQ τ s=true:=by
  unfold nV.qQ;rw[m.et,m.ec]
  split
  . rfl
  . simp only[il,zd]
    exact⟨⟨h1,by omega⟩,lq m.sh (by omega)⟩
 unfold nV;rw[m.ec,m.et]
 split
 . rfl
 . rfl
 . split
   . rfl
   . rename_i x hx
     cases e:x.there with
     |false=>rfl
     |true=>simp[jN ((m.t1.cell hx).2.2 e) m.sh.sl]
 . simp only[il,zd]
   exact⟨⟨⟨by omega,hh⟩,Ao m.t1 m.sh.sl⟩,by rw[hr];simp⟩
 . exact hw
 . exact hw
 . exact hw
 . exfalso
   have h9:c.op.kind=1∨c.op.kind=2∨c.op.kind=3∨c.op.kind=4∨c.op.kind=5∨c.op.kind=6∨c.op.kind=7:=by omega
   rcases h9 with e|e|e|e|e|e|e<;>exact absurd e (by assumption)
def jq (o:En.Op) (t:bL):bL:=if iB o then t else {t with ops:=t.ops+1}
theorem WF.RQ (h:WF N L n D) (hs:s<8) {t:bL} (ht:D.aj.getD s none=some t) (o:En.Op) (ho:p9 o=true) (hop:t.ops<12∨iB o=true):Mid N L n s 0 (cO D s o t) (cO D s o t) (jq o t) (gN o (D.seq+1)):=by
 have hT:=h.tx s t ht;have h8:s<D.calls.length:=by rw[h.sh.c8];exact hs
 have h8':s<D.aj.length:=by rw[h.sh.t8];exact hs
 unfold cO jq
 cases he:iB o with
 |true=>
  simp only[if_true];refine⟨hs,?_,ht,?_,hT,ho,fun _ _=>rfl,fun _ _=>rfl,rfl,rfl,rfl,rfl,⟨rfl,rfl,rfl,rfl⟩,?_,?_⟩
  . exact (h.sh.aK s (gN o (D.seq+1))).same rfl rfl rfl rfl rfl h.sh.t8 (by show (D.calls.set s _).length=8;rw[rz];exact h.sh.c8) rfl rfl rfl rfl rfl
  . show (D.calls.set s _).getD s none=_
    rw[aS _ _ _ _ h8,aV rfl]
  . unfold St.c
    rw[show (({D with seq:=D.seq+1}:St).aK s (gN o (D.seq+1))).calls.getD s none=_ from aS _ _ _ _ h8,aV rfl];exact⟨rfl,rfl⟩
  . show t.id=((D.aj.getD s none).getD default).id
    rw[ht];rfl
 |false=>
  simp only[Bool.false_eq_true,if_false];have h12:t.ops<12:=hop.resolve_right (by rw[he];simp);have Kt:TX N L n {t with ops:=t.ops+1}:=⟨hT.i1,hT.i2,h12,hT.bg,hT.en,hT.ce,hT.ky,hT.kn,hT.rd,hT.rn,hT.bd,hT.bn⟩
  refine⟨hs,?_,?_,?_,Kt,ho,fun _ _=>rfl,fun _ _=>rfl,rfl,rfl,rfl,rfl,⟨rfl,rfl,rfl,rfl⟩,?_,?_⟩
  . exact ((h.sh.bK s {t with ops:=t.ops+1}).aK s (gN o (D.seq+1))).same rfl rfl rfl rfl rfl (by show (D.aj.set s _).length=8;rw[rz];exact h.sh.t8) (by show (D.calls.set s _).length=8;rw[rz];exact h.sh.c8) rfl rfl rfl rfl rfl
  . show (D.aj.set s _).getD s none=_
    rw[aS _ _ _ _ h8',aV rfl]
  . show (D.calls.set s _).getD s none=_
    rw[aS _ _ _ _ h8,aV rfl]
  . unfold St.c
    rw[show (({(D.bK s {t with ops:=t.ops+1}) with seq:=D.seq+1}:St).aK s (gN o (D.seq+1))).calls.getD s none=_ from aS _ _ _ _ h8,aV rfl];exact⟨rfl,rfl⟩
  . show t.id=(((D.aj.set s (some {t with ops:=t.ops+1})).getD s none).getD default).id
    rw[aS _ _ _ _ h8',aV rfl];rfl
theorem uY (D:St) (s:Nat) (o:En.Op) (t:bL):(cO D s o t).count=D.count∧(cO D s o t).aI=D.aI∧(cO D s o t).seq=D.seq+1∧(cO D s o t).aB=D.aB∧(cO D s o t).sw=D.sw∧(cO D s o t).low=D.low∧(cO D s o t).cut=D.cut∧(cO D s o t).cuts=D.cuts∧(cO D s o t).aT=D.aT∧(cO D s o t).words=D.words:=by
 unfold cO;split<;>exact⟨rfl,rfl,rfl,rfl,rfl,rfl,rfl,rfl,rfl,rfl⟩
theorem Ar (D:St) (s:Nat) (o:En.Op) (t:bL) (hs:s<D.calls.length) (hs2:s<D.aj.length) (q:Nat) (hq:q≠s):(cO D s o t).aj.getD q none=D.aj.getD q none∧(cO D s o t).calls.getD q none=D.calls.getD q none:=by
 unfold cO
 split
 . refine⟨rfl,?_⟩
   show (D.calls.set s _).getD q none=_;rw[aS _ _ _ _ hs,aR hq]
 . refine⟨?_,?_⟩
   . show (D.aj.set s _).getD q none=_
     rw[aS _ _ _ _ hs2,aR hq]
   . show (D.calls.set s _).getD q none=_
     rw[aS _ _ _ _ hs,aR hq]
theorem WF.mf (h:WF N L n D) (hs:s<8) {t:bL} (ht:D.aj.getD s none=some t) (hc:D.calls.getD s none=none) {o:En.Op} (ho:p9 o=true) (hop:t.ops<12∨iB o=true) (Ct:D.seq<3999999999999999999) (hn:n<999970):
 ∃ aH,jh D s o=some aH∧WF N L n aH∧aH.count=D.count∧aH.aI=D.aI∧aH.seq=D.seq+1∧aH.aB=D.aB∧(∃ c,aH.calls.getD s none=some c∧c.op=o)∧(aH.aj.getD s none).isSome=true
  ∧(∀ q,q≠s->aH.aj.getD q none=D.aj.getD q none∧aH.calls.getD q none=D.calls.getD q none)∧(∀ u,aH.aj.getD s none=some u->u.id=t.id):=by
 have m:=h.RQ hs ht o ho hop;obtain⟨f1,f2,f3,f4,f5,f6,f7,f8,f9,f10⟩:=uY D s o t;have fo:=Ar D s o t (by rw[h.sh.c8];exact hs) (by rw[h.sh.t8];exact hs);have hf:=Gz m rfl (by omega);have hout:=uX m rfl rfl;have hops:=(h.tx s t ht).op;unfold jh;rw[ht];simp only;rw[aV ⟨ho,by rw[hc];rfl,hop.imp id (fun e=>⟨e,by omega⟩),by omega,by rw[h.sh.c8];exact hs,by rw[h.sh.t8];exact hs,hf⟩]
 cases e:(cO D s o t).first s with
 |mk dU k=>
 rw[e] at hout;obtain⟨t2,c2,m2,h1,h2,h3⟩:=hout;simp only at m2 h3 ⊢;rw[m2.ca];simp only;have hoc:∀ q,q≠s->dU.aj.getD q none=D.aj.getD q none∧dU.calls.getD q none=D.calls.getD q none:=fun q hq=>⟨(m2.ox q hq).trans (fo q hq).1,(m2.oc q hq).trans (fo q hq).2⟩
 rw[aV (Ap h.sh.c8 m2.sh.c8 (fun q hq=>(hoc q hq).2))];obtain⟨g1,g2,g3,g4⟩:=m2.sp;have sH:s<dU.calls.length:=by rw[m2.sh.c8];exact hs
 refine⟨_,rfl,⟨m2.sh.aK s _,?_,?_,?_,?_⟩,?_,?_,?_,?_,?_,?_,?_,?_⟩
 . exact h.sx.same (g1.trans f5) (g2.trans f6) (g3.trans f7) (g4.trans f8) (by show D.seq<=dU.seq;rw[m2.sq,f3];omega) (zr _)
 . intro q u hu
   change dU.aj.getD q none=some u at hu
   by_cases hq:q=s
   . subst hq
     rw[m2.tx] at hu;obtain rfl:=zj hu;exact m2.t1
   . rw[(hoc q hq).1] at hu
     exact h.tx q u hu
 . intro q u hu
   change dU.aj.getD q none=some u at hu;show u.id<=dU.aB;rw[m2.md,f4]
   by_cases hq:q=s
   . subst hq
     rw[m2.tx] at hu;obtain rfl:=zj hu;rw[m2.tq,<-m.tq];have:=h.ti q t ht;unfold jq
     split<;>exact this
   . rw[(hoc q hq).1] at hu
     exact h.ti q u hu
 . intro q u hu
   change (dU.calls.set s _).getD q none=some u at hu;rw[aS _ _ _ _ sH] at hu
   split at hu
   . rename_i hq
     subst hq;obtain rfl:=zj hu;exact⟨t2,m2.tx,m2.op,h1,h2,k,rfl,by cases k<;>exact h3⟩
   . rename_i hq
     rw[(hoc q hq).2] at hu;obtain⟨v,hv,hx⟩:=h.cx q u hu;exact⟨v,by show dU.aj.getD q none=_;rw[(hoc q hq).1];exact hv,hx⟩
 . show dU.count=_;have:=m2.ct;omega
 . show dU.aI=_;rw[m2.lk,f2]
 . show dU.seq=_;rw[m2.sq,f3]
 . show dU.aB=_;rw[m2.md,f4]
 . refine⟨{c2 with k:=some k},?_,?_⟩
   . show (dU.calls.set s _).getD s none=_
     rw[aS _ _ _ _ sH,aV rfl]
   . show c2.op=o
     rw[m2.oq.1,m.ec];rfl
 . show (dU.aj.getD s none).isSome=true
   rw[m2.tx];rfl
 . intro q hq
   refine⟨(hoc q hq).1,?_⟩;show (dU.calls.set s _).getD q none=_;rw[aS _ _ _ _ sH,aR hq];exact (hoc q hq).2
 . intro u hu
   change dU.aj.getD s none=some u at hu;rw[m2.tx] at hu;obtain rfl:=zj hu;rw[m2.tq,<-m.tq];unfold jq
   split<;>rfl
end
section
variable {N L n s d:Nat} {D τ:St} {t:bL} {c:dN}
theorem WF.new {N L:Nat} (h1:N<=256) (h2:L<=1099511627776):WF N L 0 (new N L):=by
 have e0:∀ (α:Type) (q:Nat),(List.replicate 8 (none:Option α)).getD q none=none:=fun α q=>by
  rw[mM,List.getElem?_replicate];split<;>rfl
 refine⟨⟨rfl,rfl,h1,h2,?_,?_,?_,rfl,rfl,zz _,fun i=>?_,⟨fun i hi=>(by cases hi),List.nodup_nil,fun i=>?_,fun _=>⟨rfl,fun i=>?_⟩,fun _=>⟨rfl,?_⟩,fun e=>(by cases e)⟩,zr _,zr _,fun e he=>(by cases he)⟩,⟨fun x hx=>(by cases hx),zz _,fun p hp=>(by cases hp),zr _,zr _⟩,fun s t ht=>?_,fun s t ht=>?_,fun s c hc=>?_⟩
 . show (List.replicate (73+N*3+2000+1) 0).length=_;rw[List.length_replicate]
 . show (List.replicate N (0,false)).length=N;rw[List.length_replicate]
 . show (List.replicate N (0,0)).length=N;rw[List.length_replicate]
 . have:(En.new N L).word i=0:=by
    show (List.replicate (73+N*3+2000+1) 0).getD i 0=0;rw[mM,List.getElem?_replicate];split<;>rfl
   rw[this];exact Cu.zero N L i
 . show ((List.replicate N (0,false)).getD i (0,false)).1<=65535
   rw[mM,List.getElem?_replicate];split<;>simp
 . show ((List.replicate N (0,false)).getD i (0,false)).2=false
   rw[mM,List.getElem?_replicate];split<;>rfl
 . show (List.replicate N (0,false)).countP (·.2)=0
   rw[List.countP_replicate];rfl
 . exact absurd ht (by rw[show (En.new N L).aj.getD s none=none from e0 _ s];simp)
 . exact absurd ht (by rw[show (En.new N L).aj.getD s none=none from e0 _ s];simp)
 . exact absurd hc (by rw[show (En.new N L).calls.getD s none=none from e0 _ s];simp)
theorem Sh.aB (h:Sh N L n D) (h2:D.aB<2000):Sh N L n {D with aB:=D.aB+1}:=
 ⟨h.sl,h.lm,h.n1,h.l1,h.nw,h.nt,h.nv,h.t8,h.c8,h2,h.wd,⟨h.bO.fr,h.bO.nd,h.bO.tg,h.bO.ls,h.bO.w0,h.bO.sm⟩,h.wn,h.tl,h.tp⟩
theorem Me (h:Sh N L n D) (hs:s<8) {aD:St} (h2:Sh N L n aD) (hm:aD.aB=D.aB) (hmd:D.aB<2000) (hlim:ai (D.word 0)<L) (az:Nat):Sh N L (n+1) (bM D s az aD):=by
 have hm2:Sh N L n {aD with aB:=D.aB+1}:=by
  have:=h2.aB (by rw[hm];exact hmd);rw[hm] at this;exact this
 unfold bM;refine Sh.event ?_ _;refine Sh.bK ?_ s _;refine Sh.put ?_ (IA hs (by omega) h.l1);refine Sh.put ?_ ?_
 . exact hm2.cB (xX (by omega) h.l1 (by omega))
 . rw[h.place]
   exact oO (qU (by omega) (by omega))
theorem Mf {id az bg:Nat} (h1:1<=id) (h2:id<=2000) (h3:bg<=L):TX N L n (fU id az bg):=
 ⟨h1,h2,zz _,h3,zz _,fun p hp=>(by cases hp),fun k Z=>(by cases Z),zz _,fun r hr=>(by cases hr),zz _,fun b hb=>(by cases hb),zz _⟩
theorem uZ (D:St) (s az:Nat) (aD:St):(bM D s az aD).aI=aD.aI∧(bM D s az aD).seq=aD.seq∧(bM D s az aD).aB=D.aB+1∧(bM D s az aD).sw=aD.sw∧(bM D s az aD).low=aD.low∧(bM D s az aD).cut=aD.cut∧(bM D s az aD).cuts=aD.cuts∧(bM D s az aD).calls=aD.calls∧(bM D s az aD).aj=aD.aj.set s (some (fU (D.aB+1) az (ai (D.word 0)+1)))∧(bM D s az aD).count=aD.count+3:=by
 have e:∀ (τ:St) (i o v:Nat),(τ.cB i o v).aI=τ.aI∧(τ.cB i o v).seq=τ.seq∧(τ.cB i o v).aB=τ.aB∧(τ.cB i o v).sw=τ.sw∧(τ.cB i o v).low=τ.low∧(τ.cB i o v).cut=τ.cut∧(τ.cB i o v).cuts=τ.cuts∧(τ.cB i o v).calls=τ.calls∧(τ.cB i o v).aj=τ.aj∧(τ.cB i o v).count=τ.count+1:=by
  intro τ i o v;unfold St.cB;split<;>exact⟨rfl,rfl,rfl,rfl,rfl,rfl,rfl,rfl,rfl,rfl⟩
 obtain⟨e1,e2,e3,e4,e5,e6,e7,e8,e9,e10⟩:=e ({aD with aB:=D.aB+1}:St) 0 (D.word 0) (aW (ai (D.word 0)+1) 0);unfold bM;refine⟨e1,e2,e3,e4,e5,e6,e7,e8,?_,?_⟩
 . show (St.aj _).set s _=_
   show (({aD with aB:=D.aB+1}:St).cB 0 (D.word 0) (aW (ai (D.word 0)+1) 0)).aj.set s _=_;rw[e9]
 . show (({aD with aB:=D.aB+1}:St).cB 0 (D.word 0) (aW (ai (D.word 0)+1) 0)).count+1+1=_
   rw[e10]
theorem RS (D:St) (w:Nat):(D.dx w).aI=D.aI∧(D.dx w).seq=D.seq∧(D.dx w).aB=D.aB∧(D.dx w).sw=D.sw∧(D.dx w).low=D.low∧(D.dx w).cut=D.cut∧(D.dx w).cuts=D.cuts∧(D.dx w).calls=D.calls∧(D.dx w).aj=D.aj∧(D.dx w).count=D.count+1:=by
 unfold St.dx St.cB;split<;>exact⟨rfl,rfl,rfl,rfl,rfl,rfl,rfl,rfl,rfl,rfl⟩
theorem Sh.dx (h:Sh N L n D) {w:Nat} (hw:ai w<=L):Sh N L n (D.dx w):=by
 unfold St.dx;rw[h.place];exact h.cB (oO (qU (by omega) (gy hw h.l1)))
theorem Ep (D:St) (i o v j:Nat):(D.cB i o v).word j=if D.word i=o∧j=i∧i<D.words.length then v else D.word j:=by
 unfold St.cB
 by_cases h:D.word i=o
 . rw[aV h,bZ];simp[h]
 . rw[aR h];simp[h];rfl
theorem BO (h:Sh N L n D) (hs:s<8) (az:Nat) {aD:St} (h2:Sh N L n aD) (hw:aD.word 0=D.word 0):(bM D s az aD).word 0=aW (ai (D.word 0)+1) 0:=by
 have hl:=h2.nw;unfold bM;show ((((({aD with aB:=D.aB+1}:St).cB 0 (D.word 0) (aW (ai (D.word 0)+1) 0)).put (D.place (D.aB+1)) (pack 1 0)).put (1+s) (ai (D.word 0)+1))).word 0=_;rw[bZ,aR (by omega),bZ,aR (by rw[h.place];omega),Ep,aV ⟨hw,rfl,by show 0<aD.words.length;omega⟩]
theorem GD (h:Sh N L n D) (w:Nat):(D.dx w).word 0=D.word 0:=by
 unfold St.dx;rw[Ep,aR (by rw[h.place];omega)]
theorem WF.aJ (h:WF N L n D) (hs:s<8) (ht:D.aj.getD s none=none) {az:Nat} (hl1:1<=az) (hl3:az<=3) (hmd:D.aB<2000) (hlim:ai (D.word 0)<D.limit) (hct:D.count<2999999999999999999) (hn:n<999970):
 ∃ aH,jP D s az=some (aH,D.aB+1)∧WF N L (n+1) aH∧D.count<=aH.count∧aH.count<=D.count+5∧aH.aI=D.aI∧aH.seq=D.seq∧aH.aB=D.aB+1∧aH.calls=D.calls∧(aH.aj.getD s none)=some (fU (D.aB+1) az (ai (D.word 0)+1))
  ∧(∀ q,q≠s->aH.aj.getD q none=D.aj.getD q none)∧aH.word 0=aW (ai (D.word 0)+1) 0:=by
 have UU:ai (D.word 0)<L:=by rw[<-h.sh.lm];exact hlim
 have hl:=h.sh.l1;have hck:=(h.sh.wd 0).ck rfl;have hcn:D.calls.getD s none=none:=by
  cases e:D.calls.getD s none with
  |none=>rfl
  |some c=>
   obtain⟨t,ht2,-⟩:=h.cx s c e;rw[ht] at ht2;cases ht2
 have htl:=h.sh.tl;unfold jP;rw[aV ⟨hl1,hl3,by rw[ht];rfl,by rw[hcn];rfl,hmd,(h.sh.wd 0).u,by omega,hlim,by omega,by omega⟩];have F:∀ aD:St,Sh N L n aD->aD.word 0=D.word 0->aD.aI=D.aI->aD.seq=D.seq->aD.aB=D.aB->aD.sw=D.sw->aD.low=D.low->aD.cut=D.cut->aD.cuts=D.cuts->aD.calls=D.calls->aD.aj=D.aj->D.count<=aD.count->aD.count<=D.count+2->
  WF N L (n+1) (bM D s az aD)∧D.count<=(bM D s az aD).count∧(bM D s az aD).count<=D.count+5∧(bM D s az aD).aI=D.aI∧(bM D s az aD).seq=D.seq∧(bM D s az aD).aB=D.aB+1∧(bM D s az aD).calls=D.calls∧((bM D s az aD).aj.getD s none)=some (fU (D.aB+1) az (ai (D.word 0)+1))
  ∧(∀ q,q≠s->(bM D s az aD).aj.getD q none=D.aj.getD q none)∧(bM D s az aD).word 0=aW (ai (D.word 0)+1) 0:=by
  intro aD hS2 hw0 g1 g2 g3 g4 g5 g6 g7 g8 g9 g10 g11;obtain⟨f1,f2,f3,f4,f5,f6,f7,f8,f9,f10⟩:=uZ D s az aD;have wu:s<D.aj.length:=by rw[h.sh.t8];exact hs
  have UW:∀ q,(bM D s az aD).aj.getD q none=if q=s then some (fU (D.aB+1) az (ai (D.word 0)+1)) else D.aj.getD q none:=by
   intro q;rw[f9,g9,aS _ _ _ _ wu]
  refine⟨⟨Me h.sh hs hS2 g3 hmd UU az,?_,?_,?_,?_⟩,by omega,by omega,f1.trans g1,f2.trans g2,f3,f8.trans g8,by rw[UW,aV rfl],fun q hq=>by rw[UW,aR hq],BO h.sh hs az hS2 hw0⟩
  . exact h.sx.same (f4.trans g4) (f5.trans g5) (f6.trans g6) (f7.trans g7) (by rw[f2,g2];exact zr _) (by omega)
  . intro q u hu
    rw[UW] at hu
    split at hu
    . obtain rfl:=zj hu
      exact Mf (by omega) (by omega) (by omega)
    . exact (h.tx q u hu).mono (by omega)
  . intro q u hu
    rw[UW] at hu;rw[f3]
    split at hu
    . obtain rfl:=zj hu
      exact zr _
    . exact Nat.le_succ_of_le (h.ti q u hu)
  . intro q u hu
    rw[f8,g8] at hu;obtain⟨v,hv,hx⟩:=h.cx q u hu;refine⟨v,?_,hx⟩;rw[UW,aR (by rintro rfl;rw[hcn] at hu;cases hu)];exact hv
 split
 . obtain⟨k1,k2⟩:=F D.tick h.sh.tick rfl rfl rfl rfl rfl rfl rfl rfl rfl rfl (by show D.count<=D.count+1;omega) (by show D.count+1<=_;omega)
   exact⟨_,rfl,k1,k2⟩
 . rw[aV hck.2]
   obtain⟨e1,e2,e3,e4,e5,e6,e7,e8,e9,e10⟩:=RS D.tick (D.word 0);have ZP:(D.tick.dx (D.word 0)).count=D.count+1+1:=e10;obtain⟨k1,k2⟩:=F (D.tick.dx (D.word 0)) (h.sh.tick.dx hck.1) (GD h.sh.tick _) e1 e2 e3 e4 e5 e6 e7 e8 e9 (by omega) (by omega);exact⟨_,rfl,k1,k2⟩
theorem xZ {F:Nat}:∀ x,mI F=some x->Gy N x:=by
 intro x hx;unfold mI at hx
 split at hx
 . cases hx
 . obtain rfl:=zj hx
   show F<=63;omega
theorem qX {F ak G:Nat} (Z:F<=63) (ha:LZ N ak) (hl:LZ N G):∀ x,iG F ak G=some x->Gy N x:=by
 intro x hx;unfold iG at hx
 split at hx
 . exact xZ x hx
 . rename_i h0
   obtain rfl:=zj hx;exact⟨Z,ha,hl.of h0⟩
theorem WF.aG (h:WF N L n D) {x:S} (hx:Gy N x):WF N L (n+1) (D.aG x).1:=by
 have F:∀ bB:St,Sh N L n bB->(∀ y,bB.sw=some y->Gy N y)->bB.low<=L->((bB.cut=D.cut∧bB.cuts=D.cuts)∨(∃ l,LK N l∧bB.cut=D.cut++[(l,D.seq)]∧bB.cuts=D.cuts+1))->bB.seq=D.seq->bB.aj=D.aj->bB.calls=D.calls->bB.aB=D.aB->WF N L (n+1) bB:=by
  intro bB hS h1 h2 h3 h4 h5 h6 h7;refine⟨hS.mono (oW _),⟨h1,h2,?_,?_,?_⟩,fun s t ht=>?_,fun s t ht=>?_,fun s c hc=>?_⟩
  . rcases h3 with ⟨e,-⟩|⟨l,hl,e,-⟩
    . rw[e,h4];exact h.sx.cu
    . rw[e,h4]
      intro p hp;rw[List.mem_append] at hp
      rcases hp with hp|hp
      . exact h.sx.cu p hp
      . simp at hp;subst hp;exact⟨hl,zr _⟩
  . have:=h.sx.cn
    rcases h3 with ⟨e,e2⟩|⟨l,hl,e,e2⟩
    . rw[e,e2];exact this
    . rw[e,e2];simp;exact this
  . have:=h.sx.cb
    rcases h3 with ⟨e,e2⟩|⟨l,hl,e,e2⟩<;>omega
  . rw[h5] at ht;exact (h.tx s t ht).mono (oW _)
  . rw[h5] at ht;rw[h7];exact h.ti s t ht
  . rw[h6] at hc;rw[h5];exact h.cx s c hc
 have hlo:=h.sx.lo;have Py:∀ (τ:St) (x:Option S) (l:Nat),Sh N L n τ->Sh N L n {τ with sw:=x,low:=l}:=fun τ x l h=>⟨h.sl,h.lm,h.n1,h.l1,h.nw,h.nt,h.nv,h.t8,h.c8,h.md,h.wd,⟨h.bO.fr,h.bO.nd,h.bO.tg,h.bO.ls,h.bO.w0,h.bO.sm⟩,h.wn,h.tl,h.tp⟩
 have YB:∀ (τ:St) (x:Option S) (c:List (Nat×Nat)) (k:Nat),Sh N L n τ->Sh N L n {τ with cut:=c,cuts:=k,sw:=x}:=fun τ x c k h=>⟨h.sl,h.lm,h.n1,h.l1,h.nw,h.nt,h.nv,h.t8,h.c8,h.md,h.wd,⟨h.bO.fr,h.bO.nd,h.bO.tg,h.bO.ls,h.bO.w0,h.bO.sm⟩,h.wn,h.tl,h.tp⟩
 cases x with
 |now=>
  refine F _ (Py _ _ _ h.sh.tick) (fun y hy=>?_) ((h.sh.wd 0).ck rfl).1 (.inl ⟨rfl,rfl⟩) rfl rfl rfl rfl;have hy':nL 0=some y:=hy;simp[nL] at hy';subst hy';show 0<8;omega
 |live s=>
  have hs:s<8:=hx;refine F _ (Py _ _ _ h.sh.tick) (fun y hy=>?_) ?_ (.inl ⟨rfl,rfl⟩) rfl rfl rfl rfl
  . have hy':nL (s+1)=some y:=hy
    unfold nL at hy'
    split at hy'
    . exact xZ y hy'
    . obtain rfl:=zj hy'
      show s+1<8;omega
  . show (if _ then min D.low _ else D.low)<=L
    split
    . exact gy (Nat.min_le_left _ _) hlo
    . exact hlo
 |head k=>
  have Z:k<=63:=hx;exact F _ (Py _ _ _ h.sh.tick) (qX Z (.inl rfl) (h.sh.head (by omega))) hlo (.inl ⟨rfl,rfl⟩) rfl rfl rfl rfl
 |visit k ak G=>
  obtain⟨Z,ha,hl⟩:=hx;refine F _ (Py _ _ _ h.sh.tick) (fun y hy=>?_) hlo (.inl ⟨rfl,rfl⟩) rfl rfl rfl rfl;have hy':=zj hy;subst hy'
  split
  . rename_i h2
    exact⟨Z,ha,hl,qx (h.sh.slot hl).1 h2⟩
  . exact⟨Z,ha,hl⟩
 |maker k ak G id=>
  obtain⟨Z,ha,hl,hid⟩:=hx;refine F _ (Py _ _ _ h.sh.tick) (fun y hy=>?_) hlo (.inl ⟨rfl,rfl⟩) rfl rfl rfl rfl;have hy':=zj hy;subst hy'
  split
  . exact⟨Z,ha,hl⟩
  . exact⟨Z,hl⟩
 |dD k ak G b=>
  obtain⟨Z,ha,hl⟩:=hx;refine F _ (Py _ _ _ h.sh.tick) (fun y hy=>?_) hlo (.inl ⟨rfl,rfl⟩) rfl rfl rfl rfl;have hy':=zj hy;subst hy'
  split
  . exact⟨Z,ha,hl⟩
  . exact⟨Z,hl⟩
 |on k G=>
  obtain⟨Z,hl⟩:=hx;exact F _ (Py _ _ _ h.sh.tick) (qX Z (.inr hl) (h.sh.slot hl).2.2) hlo (.inl ⟨rfl,rfl⟩) rfl rfl rfl rfl
 |unlink k ak G=>
  obtain⟨Z,ha,hl⟩:=hx;refine F _ (Py _ _ _ h.sh.tick) (fun y hy=>?_) hlo (.inl ⟨rfl,rfl⟩) rfl rfl rfl rfl;have hy':=zj hy;subst hy';exact⟨Z,ha,hl,(h.sh.slot hl).2.2⟩
 |cut k ak G next=>
  obtain⟨Z,ha,hl,hn⟩:=hx;unfold St.aG;simp only
  split
  . rename_i h0
    exact F _ (YB _ _ _ _ (h.sh.put (pM (ha.of h0) hn))) (qX Z ha hn) hlo (.inr ⟨G,hl,rfl,rfl⟩) rfl rfl rfl rfl
  split
  . exact F _ (YB _ _ _ _ (h.sh.put (pO (by omega) hn))) (qX Z ha hn) hlo (.inr ⟨G,hl,rfl,rfl⟩) rfl rfl rfl rfl
  . exact F _ (Py _ _ _ h.sh.tick) (xZ) hlo (.inl ⟨rfl,rfl⟩) rfl rfl rfl rfl
theorem qG (D:St) (k:S):(D.aG k).1.calls=D.calls∧(D.aG k).1.count=D.count+1∧(D.aG k).1.aI=D.aI∧(D.aG k).1.aj=D.aj∧(D.aG k).1.seq=D.seq∧(D.aG k).1.aB=D.aB∧(D.aG k).1.aT=D.aT:=by
 cases k<;>simp only[St.aG]<;>(repeat' split)<;>exact⟨rfl,rfl,rfl,rfl,rfl,rfl,rfl⟩
theorem WF.cz (h:WF N L n D):WF N L (n+1) D.cz.1∧D.count<=D.cz.1.count∧D.cz.1.count<=D.count+1∧D.aI<=D.cz.1.aI∧D.cz.1.aI<=D.aI+1∧D.cz.1.seq=D.seq∧D.cz.1.aB=D.aB∧D.cz.1.aj=D.aj∧D.cz.1.calls=D.calls∧D.cz.1.aT=D.aT:=by
 have hgo:WF N L (n+1) (St.cz.go D).1∧D.count<=(St.cz.go D).1.count∧(St.cz.go D).1.count<=D.count+1∧D.aI<=(St.cz.go D).1.aI∧(St.cz.go D).1.aI<=D.aI+1∧(St.cz.go D).1.seq=D.seq∧(St.cz.go D).1.aB=D.aB∧(St.cz.go D).1.aj=D.aj∧(St.cz.go D).1.calls=D.calls∧(St.cz.go D).1.aT=D.aT:=by
  have hx:Gy N (D.sw.getD .now):=by
   cases e:D.sw with
   |none=>trivial
   |some x=>exact h.sx.so x e
  have h2:=h.aG hx;obtain⟨e1,e2,e3,e4,e5,e6,e7⟩:=qG D (D.sw.getD .now);unfold St.cz.go;simp only;refine⟨⟨h2.sh.same rfl rfl rfl rfl rfl h2.sh.t8 h2.sh.c8 rfl rfl rfl rfl rfl,h2.sx.same rfl rfl rfl rfl (zr _) (zr _),h2.tx,h2.ti,h2.cx⟩,by omega,by omega,by omega,by omega,e5,e6,e4,e1,e7⟩
 unfold St.cz
 split
 . rename_i G seq rest hcut
   split
   . obtain⟨e1,e2,e3,e4,e5,e6,e7,e8⟩:=oM D G
     obtain⟨s1,s2,s3,s4⟩:=BK D G;have hS:=h.sh.give G;have hcn:=h.sx.cn;rw[hcut] at hcn;refine⟨⟨hS.same rfl rfl rfl rfl rfl hS.t8 hS.c8 rfl rfl rfl rfl rfl,⟨fun x hx=>h.sx.so x (by rw[<-s1];exact hx),by show (D.give G).low<=L;rw[s2];exact h.sx.lo,fun p hp=>?_,?_,?_⟩,fun q u hu=>?_,fun q u hu=>?_,fun q u hu=>?_⟩,?_,?_,?_,?_,e5,e6,e1,e2,e7⟩
     . show LK N p.1∧p.2<=(D.give G).seq
       rw[e5];exact h.sx.cu p (by rw[hcut];exact qg _ hp)
     . show rest.length<=(D.give G).cuts
       rw[s4];simp at hcn;omega
     . show (D.give G).cuts<=_
       rw[s4];exact Nat.le_succ_of_le h.sx.cb
     . change (D.give G).aj.getD q none=some u at hu
       rw[e1] at hu;exact (h.tx q u hu).mono (oW _)
     . change (D.give G).aj.getD q none=some u at hu
       rw[e1] at hu;show u.id<=(D.give G).aB;rw[e6];exact h.ti q u hu
     . change (D.give G).calls.getD q none=some u at hu
       show ∃ t,(D.give G).aj.getD q none=some t∧_;rw[e2] at hu;rw[e1];exact h.cx q u hu
     . show D.count<=(D.give G).count;omega
     . show (D.give G).count<=_;omega
     . show D.aI<=(D.give G).aI;omega
     . show (D.give G).aI<=_;omega
   . exact hgo
 . exact hgo
theorem WF.tick (h:WF N L n D):WF N L n D.tick:=⟨h.sh.tick,⟨h.sx.so,h.sx.lo,h.sx.cu,h.sx.cn,h.sx.cb⟩,h.tx,h.ti,h.cx⟩
theorem WF.mono {n':Nat} (h:WF N L n D) (hn:n<=n'):WF N L n' D:=⟨h.sh.mono hn,⟨h.sx.so,h.sx.lo,h.sx.cu,h.sx.cn,gy h.sx.cb hn⟩,fun s t ht=>(h.tx s t ht).mono hn,h.ti,h.cx⟩
end
theorem WF.pK {N L n:Nat} {D:St} (h:WF N L n D) (hn:n<999980) (hct:D.count<3000000000000000000) (hlk:D.aI<1000000000000000000):pK D=true:=by
 unfold Em.pK;simp only[il,zd,List.all_eq_true];have hcn:=h.sx.cn;have hcb:=h.sx.cb;refine⟨?_,lq h.sh (by omega),fun p hp=>jN (h.sx.cu p hp).1 h.sh.sl,by omega,hct,hlk,h.sh.c8⟩;have hx:Gy N (D.sw.getD .now):=by
  cases e:D.sw with
  |none=>trivial
  |some x=>exact h.sx.so x e
 unfold UQ
 cases e:D.sw.getD .now with
 |now=>simp only[zd];exact (h.sh.wd 0).u
 |live s=>rw[e] at hx;simp only[zd];exact hx
 |head F=>rw[e] at hx;simp only[zd];exact hx
 |visit F ak G=>rw[e] at hx;simp only[il];exact⟨jN hx.2.2 h.sh.sl,iM h.sh _⟩
 |maker F ak G id=>rw[e] at hx;simp only[il,zd];exact⟨hx.2.2.2,iM h.sh _⟩
 |dD F ak G b=>rw[e] at hx;simp only[il];exact⟨jN hx.2.2 h.sh.sl,iM h.sh _⟩
 |on F G=>rw[e] at hx;simp only[il,zd];exact⟨hx.1,jN hx.2 h.sh.sl⟩
 |unlink F ak G=>rw[e] at hx;exact jN hx.2.2 h.sh.sl
 |cut F ak G next=>
  rw[e] at hx;simp only[il,zd,qd];exact⟨hx.1,hx.2.1.imp id (fun hl=>jN hl h.sh.sl),by omega⟩
end Go.Proofs.YthicolbbmjfkfaaGreat.Em.Cw
