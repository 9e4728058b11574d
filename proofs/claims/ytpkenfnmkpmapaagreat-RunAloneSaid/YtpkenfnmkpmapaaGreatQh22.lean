import Derived.Defers
import Derived.Test.YtpkenfnmkpmapaaGreatQh21
namespace Go.Proofs.YtpkenfnmkpmapaaGreat.Em.Cw
open En
set_option linter.unusedVariables false
set_option linter.unusedSimpArgs false
set_option maxRecDepth 100000
set_option maxHeartbeats 1600000
structure LK (N l:Nat):Prop where
 lo:1≤l % 131072
 hi:l % 131072≤N
 u:l<18446744073709551616
def LZ (N l:Nat):Prop:=l=0∨LK N l
def Wd (w:Nat):Prop:=(rd w).1=2→(rd w).2≤2000
structure WOk (N L i v:Nat):Prop where
 u:v<18446744073709551616
 ck:i=0→timeOf v≤L∧lastOf v≤2000
 lv:1≤i→i≤8→v≤L
 hd:9≤i→i<73→LZ N v
 nx:73≤i→i<73+N*3→i % 3=0→LZ N v
 be:73≤i→i<73+N*3→i % 3≠0→Wd v
structure Pool (N:Nat) (σ:St):Prop where
 fr:∀ i∈σ.free,i<N∧(σ.tags.getD i (0,false)).2=false
 nd:σ.free.Nodup
 tg:∀ i,(σ.tags.getD i (0,false)).1≤65535
 ls:σ.listed=false→σ.free=[]∧∀ i,(σ.tags.getD i (0,false)).2=false
 w0:σ.listed=false→σ.worn=0∧σ.tags.countP (·.2)=0
 sm:σ.listed=true→σ.free.length+σ.worn+σ.tags.countP (·.2)≤N
structure Sh (N L n:Nat) (σ:St):Prop where
 sl:σ.slots=N
 lm:σ.limit=L
 n1:N≤256
 l1:L≤1099511627776
 nw:σ.words.length=73+N*3+2001
 nt:σ.tags.length=N
 nv:σ.values.length=N
 t8:σ.txns.length=8
 c8:σ.calls.length=8
 md:σ.made≤2000
 wd:∀ i,WOk N L i (σ.word i)
 pool:Pool N σ
 wn:σ.worn≤n
 tl:σ.tale.length≤n
 tp:∀ e∈σ.tale,e.res.pairs.length≤64
structure TX (N L n:Nat) (t:Txn):Prop where
 i1:1≤t.id
 i2:t.id≤2000
 op:t.ops≤12
 bg:t.begin_≤L
 en:t.end_≤L
 ce:∀ p∈t.cells,LZ N p.2.own∧LZ N p.2.old∧(p.2.there=true→LK N p.2.own)
 ky:∀ k∈t.keys,∃ x,t.cell k=some x
 kn:t.keys.length≤n
 rd:∀ r∈t.reads,r.1<64
 rn:t.reads.length≤n
 bd:∀ b∈t.bonds,b≤2000
 bn:t.bonds.length≤n
def HuntOk (t:Txn) (c:Cal) (h:Hunt):Prop:=h.key<64∧match h.thn with
 |.get=>True
 |.scan k=>k=h.key∧c.op.hi≤63∧c.r.pairs.length≤k
 |.change=>c.op.key=h.key∧t.cell c.op.key=none
 |.judge i _=>i<t.reads.length
def KOk (N L:Nat) (t:Txn) (c:Cal):K→Prop
 |.fin r=>r.over=0∧r.pairs.length≤64
 |.start h=>HuntOk t c h
 |.visit h link=>HuntOk t c h∧LK N link
 |.older h link=>HuntOk t c h∧LK N link
 |.maker h link id=>HuntOk t c h∧LK N link∧id≤2000
 |.ended h link mb=>HuntOk t c h∧LK N link∧mb≤2000
 |.ender h link mb id=>HuntOk t c h∧LK N link∧mb≤2000∧id≤2000
 |.seen h link mb=>HuntOk t c h∧LK N link∧mb≤2000
 |.again e=>e<18446744073709551616∧Wd e∧∃ x,t.cell c.op.key=some x∧LK N x.own
 |.own link=>LK N link∧t.cell c.op.key=none∧c.op.key<64
 |.ownTxn link w id=>LK N link∧t.cell c.op.key=none∧c.op.key<64∧id≤2000
 |.claim link w=>LK N link∧t.cell c.op.key=none∧c.op.key<64
 |.fresh link=>LZ N link∧t.cell c.op.key=none∧c.op.key<64
 |.next link head at_=>LZ N link∧LZ N head∧LK N at_∧t.cell c.op.key=none∧c.op.key<64
 |.free link head at_=>LZ N link∧LZ N head∧LK N at_∧t.cell c.op.key=none∧c.op.key<64
 |.freeTxn link head at_ id=>LZ N link∧LZ N head∧LK N at_∧id≤2000∧t.cell c.op.key=none∧c.op.key<64
 |.slotB x link head=>LK N link∧c.op.key<64∧(if x=true then (t.cell c.op.key).isSome=true else t.cell c.op.key=none∧LZ N head)
 |.slotE x link head=>LK N link∧c.op.key<64∧(if x=true then (t.cell c.op.key).isSome=true else t.cell c.op.key=none∧LZ N head)
 |.push link head=>LK N link∧LZ N head∧t.cell c.op.key=none∧c.op.key<64
 |.pushC link head=>LK N link∧LZ N head∧t.cell c.op.key=none∧c.op.key<64
 |.over link=>LK N link∧(t.cell c.op.key).isSome=true∧c.op.key<64
 |.overN link head=>LK N link∧LZ N head∧(t.cell c.op.key).isSome=true∧c.op.key<64
 |.overC link head=>LK N link∧LZ N head∧(t.cell c.op.key).isSome=true∧c.op.key<64
 |.draw=>True
 |.drawH w now=>w<18446744073709551616∧lastOf w≤2000∧now<L∧timeOf w≤L
 |.turn w now=>now<L
 |.helpJ=>True
 |.wait i=>i<t.bonds.length
 |.commit=>True
 |.abort _ _=>True
 |.turns l r=>(r.over=3∨r.over=4)∧r.pairs=[]∧∀ x∈l,WOk N L x.at_ x.new∧73≤x.at_∧x.at_<73+N*3
structure CX (N L:Nat) (t:Txn) (c:Cal):Prop where
 op:opOk c.op=true
 ov:c.over=false
 ro:c.r.over=0
 k:∃ k,c.k=some k∧KOk N L t c k
def SOk (N:Nat):S→Prop
 |.now=>True
 |.live s=>s<8
 |.head key=>key≤63
 |.visit key ahead link=>key≤63∧LZ N ahead∧LK N link
 |.maker key ahead link id=>key≤63∧LZ N ahead∧LK N link∧id≤2000
 |.garbage key ahead link b=>key≤63∧LZ N ahead∧LK N link
 |.on key link=>key≤63∧LK N link
 |.unlink key ahead link=>key≤63∧LZ N ahead∧LK N link
 |.cut key ahead link next=>key≤63∧LZ N ahead∧LK N link∧LZ N next
structure SX (N L n:Nat) (σ:St):Prop where
 so:∀ x,σ.sw=some x→SOk N x
 lo:σ.low≤L
 cu:∀ p∈σ.cut,LK N p.1∧p.2≤σ.seq
 cn:σ.cut.length≤σ.cuts
 cb:σ.cuts≤n
structure WF (N L n:Nat) (σ:St):Prop where
 sh:Sh N L n σ
 sx:SX N L n σ
 tx:∀ s t,σ.txns.getD s none=some t→TX N L n t
 ti:∀ s t,σ.txns.getD s none=some t→t.id≤σ.made
 cx:∀ s c,σ.calls.getD s none=some c→∃ t,σ.txns.getD s none=some t∧CX N L t c
theorem LK.slotOf {N l:Nat} (h:LK N l):slotOf l<N:=by have:=h.lo;have:=h.hi;unfold En.slotOf;omega
theorem LZ.of {N l:Nat} (h:LZ N l) (hn:l≠0):LK N l:=h.resolve_left hn
theorem LK.ne {N l:Nat} (h:LK N l):l≠0:=by rintro rfl;have:=h.lo;omega
theorem WOk.zero (N L i:Nat):WOk N L i 0:=by
 refine⟨by decide,fun _=>⟨by simp[timeOf],by simp[lastOf]⟩,fun _ _=>Nat.zero_le _,fun _ _=>.inl rfl,fun _ _ _=>.inl rfl,fun _ _ _=>?_⟩;unfold Wd;decide
theorem word_set (l:List Nat) (i v j:Nat):(l.set i v).getD j 0=if j=i∧i<l.length then v else l.getD j 0:=by
 simp only[List.getD_eq_getElem?_getD,List.getElem?_set]
 by_cases h:i=j
 · subst h
   by_cases hl:i<l.length
   · simp[hl]
   · simp[hl]
 · have h2:¬ j=i:=fun e=>h e.symm
   simp[h,h2]
theorem put_word (σ:St) (i v j:Nat):(σ.put i v).word j=if j=i∧i<σ.words.length then v else σ.word j:=word_set _ _ _ _
theorem Sh.tick {N L n:Nat} {σ:St} (h:Sh N L n σ):Sh N L n σ.tick:=⟨h.sl,h.lm,h.n1,h.l1,h.nw,h.nt,h.nv,h.t8,h.c8,h.md,h.wd,⟨h.pool.fr,h.pool.nd,h.pool.tg,h.pool.ls,h.pool.w0,h.pool.sm⟩,h.wn,h.tl,h.tp⟩
theorem Sh.put {N L n:Nat} {σ:St} (h:Sh N L n σ) {i v:Nat} (hv:WOk N L i v):Sh N L n (σ.put i v):=by
 refine⟨h.sl,h.lm,h.n1,h.l1,?_,h.nt,h.nv,h.t8,h.c8,h.md,fun j=>?_,⟨h.pool.fr,h.pool.nd,h.pool.tg,h.pool.ls,h.pool.w0,h.pool.sm⟩,h.wn,h.tl,h.tp⟩
 · show (σ.words.set i v).length=_
   rw[List.length_set];exact h.nw
 · rw[put_word]
   split
   · rename_i e;rw[e.1];exact hv
   · exact h.wd j
theorem Sh.cas {N L n:Nat} {σ:St} (h:Sh N L n σ) {i o v:Nat} (hv:WOk N L i v):Sh N L n (σ.cas i o v):=by
 unfold St.cas
 split
 · exact h.put hv
 · exact h.tick
theorem Sh.setT {N L n:Nat} {σ:St} (h:Sh N L n σ) (s:Nat) (t:Txn):Sh N L n (σ.setT s t):=
 ⟨h.sl,h.lm,h.n1,h.l1,h.nw,h.nt,h.nv,by show (σ.txns.set s _).length=8;rw[List.length_set];exact h.t8,h.c8,h.md,h.wd,⟨h.pool.fr,h.pool.nd,h.pool.tg,h.pool.ls,h.pool.w0,h.pool.sm⟩,h.wn,h.tl,h.tp⟩
theorem Sh.setC {N L n:Nat} {σ:St} (h:Sh N L n σ) (s:Nat) (c:Cal):Sh N L n (σ.setC s c):=
 ⟨h.sl,h.lm,h.n1,h.l1,h.nw,h.nt,h.nv,h.t8,by show (σ.calls.set s _).length=8;rw[List.length_set];exact h.c8,h.md,h.wd,⟨h.pool.fr,h.pool.nd,h.pool.tg,h.pool.ls,h.pool.w0,h.pool.sm⟩,h.wn,h.tl,h.tp⟩
theorem Sh.event {N L n:Nat} {σ:St} (h:Sh N L n σ) (e:Ev) (he:e.res.pairs.length≤64:=by first|exact Nat.zero_le _|assumption):Sh N L (n+1) (σ.event e):=
 ⟨h.sl, h.lm, h.n1, h.l1, h.nw, h.nt, h.nv, h.t8, h.c8, h.md, h.wd, ⟨h.pool.fr, h.pool.nd, h.pool.tg, h.pool.ls, h.pool.w0, h.pool.sm⟩, Nat.le_succ_of_le h.wn, by show (σ.tale ++ [e]).length ≤ _; rw [List.length_append]; have := h.tl; simp; omega, fun x hx => by
   have hx':x∈σ.tale++[e]:=hx
   rw[List.mem_append] at hx'
   rcases hx' with hx'|hx'
   · exact h.tp x hx'
   · simp at hx';subst hx';exact he⟩
theorem Sh.vals {N L n:Nat} {σ:St} (h:Sh N L n σ) (i:Nat) (v:Nat×Nat):Sh N L n {σ with values:=σ.values.set i v}:=
 ⟨h.sl,h.lm,h.n1,h.l1,h.nw,h.nt,by show (σ.values.set i v).length=N;rw[List.length_set];exact h.nv,h.t8,h.c8,h.md,h.wd,⟨h.pool.fr,h.pool.nd,h.pool.tg,h.pool.ls,h.pool.w0,h.pool.sm⟩,h.wn,h.tl,h.tp⟩
theorem Sh.mono {N L n n':Nat} {σ:St} (h:Sh N L n σ) (hn:n≤n'):Sh N L n' σ:=⟨h.sl,h.lm,h.n1,h.l1,h.nw,h.nt,h.nv,h.t8,h.c8,h.md,h.wd,h.pool,Nat.le_trans h.wn hn,Nat.le_trans h.tl hn,h.tp⟩
theorem TX.mono {N L n n':Nat} {t:Txn} (h:TX N L n t) (hn:n≤n'):TX N L n' t:=⟨h.i1,h.i2,h.op,h.bg,h.en,h.ce,h.ky,Nat.le_trans h.kn hn,h.rd,Nat.le_trans h.rn hn,h.bd,Nat.le_trans h.bn hn⟩
theorem Sh.tagset {N L n:Nat} {σ:St} (h:Sh N L n σ) (i:Nat) (v:Nat×Bool) (j:Nat):(σ.tags.set i v).getD j (0,false)=if j=i∧i<N then v else σ.tags.getD j (0,false):=by
 rw[←h.nt];simp only[List.getD_eq_getElem?_getD,List.getElem?_set]
 by_cases e:i=j
 · subst e
   by_cases hl:i<σ.tags.length
   · simp[hl]
   · simp[hl]
 · have h2:¬ j=i:=fun e'=>e e'.symm
   simp[e,h2]
theorem Sh.list {N L n:Nat} {σ:St} (h:Sh N L n σ):Sh N L n σ.list:=by
 unfold St.list
 split
 · exact h
 · rename_i hl
   have hl':σ.listed=false:=by simpa using hl
   obtain⟨hf,ht⟩:=h.pool.ls hl';refine⟨h.sl,h.lm,h.n1,h.l1,h.nw,h.nt,h.nv,h.t8,h.c8,h.md,h.wd,⟨fun i hi=>?_,?_,h.pool.tg,fun e=>(by cases e),fun e=>(by cases e),fun _=>?_⟩,h.wn,h.tl,h.tp⟩
   · change i∈σ.free++(List.range σ.slots).reverse at hi
     rw[hf,h.sl] at hi;simp at hi;exact⟨hi,ht i⟩
   · show (σ.free++(List.range σ.slots).reverse).Nodup
     rw[hf,List.nil_append];exact List.pairwise_reverse.2 ((List.nodup_range (n:=σ.slots)).imp fun h=>Ne.symm h)
   · obtain⟨e1,e2⟩:=h.pool.w0 hl'
     show (σ.free++(List.range σ.slots).reverse).length+σ.worn+σ.tags.countP (·.2)≤N;rw[e1,e2,hf,h.sl];simp
theorem linkOf_LK {N i tag:Nat} (hN:N≤256) (hi:i<N) (ht:tag≤65535):LK N (linkOf i tag):=by
 refine⟨?_,?_,?_⟩<;>(unfold linkOf;omega)
theorem list_listed (σ:St):σ.list.listed=true:=by
 unfold St.list
 split
 · assumption
 · rfl
theorem Sh.take {N L n:Nat} {σ:St} (h:Sh N L n σ):Sh N L n σ.take.1∧∀ l,σ.take.2=some l→LK N l:=by
 have hL:=h.list;unfold St.take;simp only
 split
 · exact⟨hL,fun l e=>by cases e⟩
 · rename_i i hi
   have hmem:i∈σ.list.free:=List.mem_of_getLast? hi;have hfr:=hL.pool.fr i hmem;have hsplit:σ.list.free=σ.list.free.dropLast++[i]:=by
    have hne:σ.list.free≠[]:=by intro e;rw[e] at hi;cases hi
    have h1:=List.dropLast_concat_getLast hne;have h2:σ.list.free.getLast hne=i:=by
     rw[List.getLast?_eq_some_getLast hne] at hi;exact Option.some.inj hi
    rw[h2] at h1;exact h1.symm
   have hnd:=hL.pool.nd;rw[hsplit] at hnd;rw[List.nodup_append] at hnd;refine⟨⟨hL.sl,hL.lm,hL.n1,hL.l1,hL.nw,?_,hL.nv,hL.t8,hL.c8,hL.md,hL.wd,⟨fun j hj=>?_,hnd.1,fun j=>?_,fun e=>?_,fun e=>?_,fun _=>?_⟩,hL.wn,hL.tl,hL.tp⟩,fun l e=>?_⟩
   · show (σ.list.tags.set i _).length=N
     rw[List.length_set];exact hL.nt
   · have hj':j∈σ.list.free.dropLast:=hj
     have hjm:j∈σ.list.free:=by rw[hsplit];exact List.mem_append_left _ hj'
     refine⟨(hL.pool.fr j hjm).1,?_⟩;show ((σ.list.tags.set i _).getD j (0,false)).2=false;rw[hL.tagset];have hne:¬ j=i:=fun e=>hnd.2.2 j hj' i (by simp) e
     rw[if_neg (fun e=>hne e.1)];exact (hL.pool.fr j hjm).2
   · show ((σ.list.tags.set i _).getD j (0,false)).1≤65535
     rw[hL.tagset]
     split
     · exact hL.pool.tg i
     · exact hL.pool.tg j
   · exfalso
     have e':σ.list.listed=false:=e;rw[list_listed] at e'
     cases e'
   · exfalso
     have e':σ.list.listed=false:=e;rw[list_listed] at e'
     cases e'
   · have hsm:=hL.pool.sm (list_listed σ)
     have hl1:σ.list.free.length=σ.list.free.dropLast.length+1:=by rw[hsplit];simp
     have hil:i<σ.list.tags.length:=by rw[hL.nt];exact hfr.1
     have hfl:σ.list.tags[i].2=false:=by have:=hfr.2;rw[List.getD_eq_getElem?_getD,List.getElem?_eq_getElem hil] at this;exact this
     show σ.list.free.dropLast.length+σ.list.worn+(σ.list.tags.set i ((σ.list.tags.getD i (0,false)).1,true)).countP (·.2)≤N;rw[List.countP_set hil,hfl];simp;omega
   · obtain rfl:=Option.some.inj e
     exact linkOf_LK h.n1 hfr.1 (hL.pool.tg i)
theorem poolLive_tag {σ:St} {link:Nat} (h:(σ.tags.getD (slotOf link) (0,false)).2=true):∃ hl:slotOf link<σ.tags.length,σ.tags[slotOf link].2=true:=by
 rw[List.getD_eq_getElem?_getD] at h
 by_cases hl:slotOf link<σ.tags.length
 · rw[List.getElem?_eq_getElem hl] at h;exact⟨hl,h⟩
 · rw[List.getElem?_eq_none (by omega)] at h;cases h
theorem Sh.give {N L n:Nat} {σ:St} (h:Sh N L n σ) (link:Nat):Sh N L (n+1) (σ.give link):=by
 unfold St.give
 split
 · rename_i hp
   have hp2:=hp;unfold St.poolLive at hp2;simp only[Bool.and_eq_true,decide_eq_true_eq,beq_iff_eq] at hp2;obtain⟨⟨⟨h1,h2⟩,h3⟩,h4⟩:=hp2;have hlt:slotOf link<N:=by rw[h.sl] at h2;unfold slotOf;omega
   have hls:σ.listed=true:=by
    cases e:σ.listed with
    |true=>rfl
    |false=>have:=(h.pool.ls e).2 (slotOf link);rw[this] at h3;cases h3
   simp only
   split
   · refine⟨h.sl,h.lm,h.n1,h.l1,h.nw,by show (σ.tags.set _ _).length=N;rw[List.length_set];exact h.nt,h.nv,h.t8,h.c8,h.md,h.wd,⟨fun j hj=>?_,h.pool.nd,fun j=>?_,fun e=>(by rw[show σ.listed=false from e] at hls;cases hls),fun e=>(by rw[show σ.listed=false from e] at hls;cases hls),fun _=>?_⟩,Nat.succ_le_succ h.wn,Nat.le_succ_of_le h.tl,h.tp⟩
     · refine⟨(h.pool.fr j hj).1,?_⟩
       show ((σ.tags.set _ _).getD j (0,false)).2=false;rw[h.tagset]
       split
       · rfl
       · exact (h.pool.fr j hj).2
     · show ((σ.tags.set _ _).getD j (0,false)).1≤65535
       rw[h.tagset]
       split
       · exact h.pool.tg _
       · exact h.pool.tg j
     · obtain⟨hl,ht⟩:=poolLive_tag h3
       have hsm:=h.pool.sm hls;have hpos:0<σ.tags.countP (·.2):=List.countP_pos_iff.2 ⟨_,List.getElem_mem hl,ht⟩;show σ.free.length+(σ.worn+1)+(σ.tags.set (slotOf link) _).countP (·.2)≤N;rw[List.countP_set hl,ht];simp;omega
   · rename_i htg
     have htg2:=h.pool.tg (slotOf link);refine⟨h.sl,h.lm,h.n1,h.l1,h.nw,by show (σ.tags.set _ _).length=N;rw[List.length_set];exact h.nt,h.nv,h.t8,h.c8,h.md,h.wd,⟨fun j hj=>?_,?_,fun j=>?_,fun e=>(by rw[show σ.listed=false from e] at hls;cases hls),fun e=>(by rw[show σ.listed=false from e] at hls;cases hls),fun _=>?_⟩,Nat.le_succ_of_le h.wn,Nat.le_succ_of_le h.tl,h.tp⟩
     · have hj':j∈σ.free++[slotOf link]:=hj
       show j<N∧((σ.tags.set _ _).getD j (0,false)).2=false;rw[h.tagset];rw[List.mem_append] at hj'
       rcases hj' with hj'|hj'
       · refine⟨(h.pool.fr j hj').1,?_⟩
         split
         · rfl
         · exact (h.pool.fr j hj').2
       · simp at hj'
         subst hj';exact⟨hlt,by rw[if_pos ⟨rfl,hlt⟩]⟩
     · show (σ.free++[slotOf link]).Nodup
       rw[List.nodup_append];refine⟨h.pool.nd,by simp,fun a ha b hb e=>?_⟩;simp at hb;subst hb;subst e;rw[(h.pool.fr _ ha).2] at h3
       cases h3
     · show ((σ.tags.set _ _).getD j (0,false)).1≤65535
       rw[h.tagset]
       split
       · show _+1≤65535
         omega
       · exact h.pool.tg j
     · obtain⟨hl,ht⟩:=poolLive_tag h3
       have hsm:=h.pool.sm hls;have hpos:0<σ.tags.countP (·.2):=List.countP_pos_iff.2 ⟨_,List.getElem_mem hl,ht⟩;show (σ.free++[slotOf link]).length+σ.worn+(σ.tags.set (slotOf link) _).countP (·.2)≤N;rw[List.countP_set hl,ht];simp;omega
 · exact h.mono (Nat.le_succ _)
theorem nodup_len:∀ (N:Nat) (l:List Nat),l.Nodup→(∀ i∈l,i<N)→l.length≤N
 |0,l,_,h=>by
  cases l with
  |nil=>simp
  |cons a l=>exact absurd (h a List.mem_cons_self) (by omega)
 |N+1,l,hn,h=>by
  by_cases hm:N∈l
  · have h1 := nodup_len N (l.erase N) (hn.erase N) (fun i hi => by
      have h2:=(List.Nodup.mem_erase_iff hn).1 hi
      have h3:=h i h2.2
      omega)
    rw[List.length_erase_of_mem hm] at h1;omega
  · have := nodup_len N l hn (fun i hi => by
      have:=h i hi
      have hne:i≠N:=by rintro rfl;exact hm hi
      omega)
    omega
theorem Pool.len {N:Nat} {σ:St} (h:Pool N σ):σ.free.length≤N:=nodup_len N _ h.nd (fun i hi=>(h.fr i hi).1)
theorem getD_setO {α:Type} (l:List (Option α)) (s:Nat) (x:Option α) (q:Nat) (hs:s<l.length):(l.set s x).getD q none=if q=s then x else l.getD q none:=by
 simp only[List.getD_eq_getElem?_getD,List.getElem?_set]
 by_cases h:s=q
 · subst h;simp[hs]
 · have h2:¬ q=s:=fun e=>h e.symm
   simp[h,h2]
def SwEq (σ τ:St):Prop:=τ.sw=σ.sw∧τ.low=σ.low∧τ.cut=σ.cut∧τ.cuts=σ.cuts
structure Mid (N L n s d:Nat) (σ τ:St) (t:Txn) (c:Cal):Prop where
 s8:s<8
 sh:Sh N L n τ
 tx:τ.txns.getD s none=some t
 ca:τ.calls.getD s none=some c
 t1:TX N L n t
 op:opOk c.op=true
 ox:∀ q,q≠s→τ.txns.getD q none=σ.txns.getD q none
 oc:∀ q,q≠s→τ.calls.getD q none=σ.calls.getD q none
 ct:τ.count=σ.count+d
 lk:τ.looks=σ.looks
 sq:τ.seq=σ.seq
 md:τ.made=σ.made
 sp:SwEq σ τ
 oq:c.op=(σ.c s).op∧c.seq=(σ.c s).seq
 tq:t.id=(σ.t s).id
section
variable {N L n s d:Nat} {σ τ:St} {t:Txn} {c:Cal}
theorem Mid.et (m:Mid N L n s d σ τ t c):τ.t s=t:=by unfold St.t;rw[m.tx];rfl
theorem Mid.ec (m:Mid N L n s d σ τ t c):τ.c s=c:=by unfold St.c;rw[m.ca];rfl
theorem Mid.tick (m:Mid N L n s d σ τ t c):Mid N L n s (d+1) σ τ.tick t c:=⟨m.s8,m.sh.tick,m.tx,m.ca,m.t1,m.op,m.ox,m.oc,by show τ.count+1=_;have:=m.ct;omega,m.lk,m.sq,m.md,m.sp,m.oq,m.tq⟩
theorem Mid.put (m:Mid N L n s d σ τ t c) {i v:Nat} (hv:WOk N L i v):Mid N L n s (d+1) σ (τ.put i v) t c:=⟨m.s8,m.sh.put hv,m.tx,m.ca,m.t1,m.op,m.ox,m.oc,by show τ.count+1=_;have:=m.ct;omega,m.lk,m.sq,m.md,m.sp,m.oq,m.tq⟩
theorem Mid.cas (m:Mid N L n s d σ τ t c) {i o v:Nat} (hv:WOk N L i v):Mid N L n s (d+1) σ (τ.cas i o v) t c:=by
 unfold St.cas
 split
 · exact m.put hv
 · exact m.tick
theorem Mid.setT (m:Mid N L n s d σ τ t c) {t2:Txn} (h:TX N L n t2) (hq:t2.id=t.id:=by rfl):Mid N L n s d σ (τ.setT s t2) t2 c:=by
 refine⟨m.s8,m.sh.setT s t2,?_,m.ca,h,m.op,fun q hq=>?_,m.oc,m.ct,m.lk,m.sq,m.md,m.sp,m.oq,hq.trans m.tq⟩
 · show (τ.txns.set s (some t2)).getD s none=_
   rw[getD_setO _ _ _ _ (by rw[m.sh.t8];exact m.s8),if_pos rfl]
 · show (τ.txns.set s (some t2)).getD q none=_
   rw[getD_setO _ _ _ _ (by rw[m.sh.t8];exact m.s8),if_neg hq,m.ox q hq]
theorem Mid.setC (m:Mid N L n s d σ τ t c) (c2:Cal) (h:c2.op=c.op∧c2.seq=c.seq):Mid N L n s d σ (τ.setC s c2) t c2:=by
 refine⟨m.s8,m.sh.setC s c2,m.tx,?_,m.t1,by rw[h.1];exact m.op,m.ox,fun q hq=>?_,m.ct,m.lk,m.sq,m.md,m.sp,⟨h.1.trans m.oq.1,h.2.trans m.oq.2⟩,m.tq⟩
 · show (τ.calls.set s (some c2)).getD s none=_
   rw[getD_setO _ _ _ _ (by rw[m.sh.c8];exact m.s8),if_pos rfl]
 · show (τ.calls.set s (some c2)).getD q none=_
   rw[getD_setO _ _ _ _ (by rw[m.sh.c8];exact m.s8),if_neg hq,m.oc q hq]
theorem Mid.event (m:Mid N L n s d σ τ t c) (e:Ev) (he:e.res.pairs.length≤64:=by first|exact Nat.zero_le _|assumption):Mid N L (n+1) s d σ (τ.event e) t c:=⟨m.s8,m.sh.event e he,m.tx,m.ca,m.t1.mono (Nat.le_succ _),m.op,m.ox,m.oc,m.ct,m.lk,m.sq,m.md,m.sp,m.oq,m.tq⟩
theorem Mid.vals (m:Mid N L n s d σ τ t c) (i:Nat) (v:Nat×Nat):Mid N L n s d σ {τ with values:=τ.values.set i v} t c:=⟨m.s8,m.sh.vals i v,m.tx,m.ca,m.t1,m.op,m.ox,m.oc,m.ct,m.lk,m.sq,m.md,m.sp,m.oq,m.tq⟩
theorem Mid.mono {n':Nat} (m:Mid N L n s d σ τ t c) (h:n≤n'):Mid N L n' s d σ τ t c:=⟨m.s8,m.sh.mono h,m.tx,m.ca,m.t1.mono h,m.op,m.ox,m.oc,m.ct,m.lk,m.sq,m.md,m.sp,m.oq,m.tq⟩
theorem list_txns (σ:St):σ.list.txns=σ.txns∧σ.list.calls=σ.calls∧σ.list.count=σ.count∧σ.list.looks=σ.looks∧σ.list.seq=σ.seq∧σ.list.made=σ.made∧σ.list.tale=σ.tale∧σ.list.words=σ.words∧σ.list.worn=σ.worn:=by
 unfold St.list;split<;>exact⟨rfl,rfl,rfl,rfl,rfl,rfl,rfl,rfl,rfl⟩
theorem take_txns (σ:St):σ.take.1.txns=σ.txns∧σ.take.1.calls=σ.calls∧σ.take.1.count=σ.count∧σ.take.1.looks=σ.looks∧σ.take.1.seq=σ.seq∧σ.take.1.made=σ.made∧σ.take.1.tale=σ.tale∧σ.take.1.words=σ.words∧σ.take.1.worn=σ.worn:=by
 unfold St.take;simp only
 split<;>exact list_txns σ
theorem give_txns (σ:St) (l:Nat):(σ.give l).txns=σ.txns∧(σ.give l).calls=σ.calls∧(σ.give l).count=σ.count∧(σ.give l).looks=σ.looks∧(σ.give l).seq=σ.seq∧(σ.give l).made=σ.made∧(σ.give l).tale=σ.tale∧(σ.give l).words=σ.words:=by
 unfold St.give
 split
 · simp only
   split<;>exact⟨rfl,rfl,rfl,rfl,rfl,rfl,rfl,rfl⟩
 · exact⟨rfl,rfl,rfl,rfl,rfl,rfl,rfl,rfl⟩
theorem list_sw (σ:St):SwEq σ σ.list:=by unfold St.list;split<;>exact⟨rfl,rfl,rfl,rfl⟩
theorem take_sw (σ:St):SwEq σ σ.take.1:=by
 unfold St.take;simp only
 split<;>exact list_sw σ
theorem give_sw (σ:St) (l:Nat):SwEq σ (σ.give l):=by
 unfold St.give
 split
 · simp only
   split<;>exact⟨rfl,rfl,rfl,rfl⟩
 · exact⟨rfl,rfl,rfl,rfl⟩
theorem Mid.take (m:Mid N L n s d σ τ t c):Mid N L n s d σ τ.take.1 t c:=by
 obtain⟨e1,e2,e3,e4,e5,e6,-⟩:=take_txns τ;obtain⟨s1,s2,s3,s4⟩:=take_sw τ;exact⟨m.s8,m.sh.take.1,by rw[e1];exact m.tx,by rw[e2];exact m.ca,m.t1,m.op,fun q hq=>by rw[e1];exact m.ox q hq,fun q hq=>by rw[e2];exact m.oc q hq,by rw[e3];exact m.ct,by rw[e4];exact m.lk,by rw[e5];exact m.sq,by rw[e6];exact m.md,by have:=m.sp;unfold SwEq at this ⊢;rw[s1,s2,s3,s4];exact this,m.oq,m.tq⟩
theorem Mid.give (m:Mid N L n s d σ τ t c) (l:Nat):Mid N L (n+1) s d σ (τ.give l) t c:=by
 obtain⟨e1,e2,e3,e4,e5,e6,-⟩:=give_txns τ l;obtain⟨s1,s2,s3,s4⟩:=give_sw τ l;exact⟨m.s8,m.sh.give l,by rw[e1];exact m.tx,by rw[e2];exact m.ca,m.t1.mono (Nat.le_succ _),m.op,fun q hq=>by rw[e1];exact m.ox q hq,fun q hq=>by rw[e2];exact m.oc q hq,by rw[e3];exact m.ct,by rw[e4];exact m.lk,by rw[e5];exact m.sq,by rw[e6];exact m.md,by have:=m.sp;unfold SwEq at this ⊢;rw[s1,s2,s3,s4];exact this,m.oq,m.tq⟩
def Out (N L n s d:Nat) (σ:St) (r:St×K):Prop:=∃ t c,Mid N L n s d σ r.1 t c∧c.over=false∧c.r.over=0∧KOk N L t c r.2
theorem Out.mono {n':Nat} {r:St×K} (h:Out N L n s d σ r) (hn:n≤n'):Out N L n' s d σ r:=by
 obtain⟨t,c,m,h⟩:=h;exact⟨t,c,m.mono hn,h⟩
theorem tx_read (h:TX N L n t) (key link:Nat) (got:Bool) (hk:key<64):TX N L (n+1) {t with reads:=t.reads++[(key,link,got)]}:=
 ⟨h.i1, h.i2, h.op, h.bg, h.en, h.ce, h.ky, Nat.le_succ_of_le h.kn, fun r hr => by
   have hr':r∈t.reads++[(key,link,got)]:=hr
   rw[List.mem_append] at hr'
   rcases hr' with hr'|hr'
   · exact h.rd r hr'
   · simp at hr';subst hr';exact hk,by show (t.reads++_).length≤_;rw[List.length_append];have:=h.rn;simp;omega,h.bd,Nat.le_succ_of_le h.bn⟩
theorem Mid.read (m:Mid N L n s d σ τ t c) (key link:Nat) (got:Bool) (hk:key<64):Mid N L (n+1) s d σ (τ.read s key link got) {t with reads:=t.reads++[(key,link,got)]} c:=by
 unfold St.read;rw[m.et];exact (m.mono (Nat.le_succ _)).setT (tx_read m.t1 key link got hk)
theorem Mid.bind (m:Mid N L n s d σ τ t c) (tq:Nat) (hto:tq≤2000):∃ t2,Mid N L (n+1) s d σ (τ.bind s tq) t2 c∧t2.cells=t.cells∧t2.reads=t.reads∧t2.end_=t.end_:=by
 unfold St.bind;rw[m.et]
 split
 · exact⟨t,m.mono (Nat.le_succ _),rfl,rfl,rfl⟩
 · have h:=m.t1
   refine⟨{t with bonds:=t.bonds++[tq]},?_,rfl,rfl,rfl⟩
   have hT : TX N L (n + 1) { t with bonds := t.bonds ++ [tq] } := ⟨h.i1, h.i2, h.op, h.bg, h.en, h.ce, h.ky, Nat.le_succ_of_le h.kn, h.rd, Nat.le_succ_of_le h.rn, fun b hb => by
     have hb':b∈t.bonds++[tq]:=hb
     rw[List.mem_append] at hb'
     rcases hb' with hb'|hb'
     · exact h.bd b hb'
     · simp at hb';subst hb';exact hto,by show (t.bonds++_).length≤_;rw[List.length_append];have:=h.bn;simp;omega⟩
   have m2:=(m.mono (Nat.le_succ n)).setT hT;refine⟨m.s8,(m.sh.setT s {t with bonds:=t.bonds++[tq]}).event _,m2.tx,m2.ca,hT,m2.op,m2.ox,m2.oc,m2.ct,m2.lk,m2.sq,m2.md,m2.sp,m2.oq,m2.tq⟩
theorem cell_mem {l:List (Nat×Cel)} {key:Nat} {x:Cel} (h:l.lookup key=some x):(key,x)∈l:=by
 induction l with
 |nil=>cases h
 |cons a l ih=>
  obtain⟨k,y⟩:=a;rw[List.lookup_cons] at h
  by_cases hk:key=k
  · subst hk
    simp at h;subst h;exact List.mem_cons_self
  · rw[beq_false_of_ne hk] at h
    exact List.mem_cons_of_mem _ (ih h)
theorem TX.cell (h:TX N L n t) {key:Nat} {x:Cel} (hx:t.cell key=some x):LZ N x.own∧LZ N x.old∧(x.there=true→LK N x.own):=h.ce _ (cell_mem hx)
theorem Mid.tell (m:Mid N L n s d σ τ t c) (key v:Nat):Mid N L n s d σ (τ.tell s key v) t {c with r:={c.r with pairs:=c.r.pairs++[(key,v)]}}:=by
 unfold St.tell;rw[m.ec];exact m.setC _ ⟨rfl,rfl⟩
theorem scan_out {key:Nat} (k:Nat):∀ (key:Nat) (τ:St) (c:Cal),Mid N L n s d σ τ t c→c.over=false→c.r.over=0→c.op.hi≤63→key≤64→c.r.pairs.length≤key→Out N L n s d σ (scanN s k τ key):=by
 induction k with
 |zero=>
  intro key τ c m ho hr hh hk hp;refine⟨t,c,m,ho,hr,?_⟩;show KOk N L t c (.fin (τ.c s).r);rw[m.ec];exact⟨hr,Nat.le_trans hp hk⟩
 |succ k ih=>
  intro key τ c m ho hr hh hk hp;unfold scanN;rw[m.ec,m.et]
  split
  · exact⟨t,c,m,ho,hr,hr,Nat.le_trans hp hk⟩
  · rename_i hlt
    split
    · rename_i x hx
      cases hth:x.there with
      |true=>
       simp only[if_true];exact ih (key+1) _ _ (m.tell key (τ.valueOf x.own)) ho hr hh (by omega) (by simp;omega)
      |false=>
       simp only[Bool.false_eq_true,if_false];exact ih (key+1) _ c m ho hr hh (by omega) (by omega)
    · exact⟨t,c,m,ho,hr,by show key<64;omega,rfl,hh,hp⟩
theorem need_le (t:Txn):∀ (k i:Nat),i≤t.reads.length→t.need k i≤t.reads.length∧(k=t.reads.length - i→t.need k i<t.reads.length→t.need k i<t.reads.length)
 |0,i,h=>⟨h,fun _ h=>h⟩
 |k+1,i,h=>by
  refine⟨?_,fun _ h=>h⟩;unfold Txn.need
  split
  · rename_i hh
    exact (need_le t k (i+1) (by omega)).1
  · exact h
theorem waitK_ok {i:Nat} (h:i≤t.bonds.length):KOk N L t c (waitK t i):=by
 unfold waitK
 split
 · trivial
 · show i<t.bonds.length;omega
theorem getD_mem {α:Type} {l:List α} {i:Nat} {a:α} (h:i<l.length):l.getD i a∈l:=by
 rw[List.getD_eq_getElem?_getD,List.getElem?_eq_getElem h];exact List.getElem_mem _
theorem judgeK_ok (h:TX N L n t) {i:Nat} (hi:i≤t.reads.length):KOk N L t c (judgeK t i):=by
 unfold judgeK;simp only;have h1:=(need_le t (t.reads.length - i) i hi).1
 split
 · exact waitK_ok (Nat.zero_le _)
 · exact⟨h.rd _ (getD_mem (by omega)),by show t.need _ i<_;omega⟩
theorem slot_out (m:Mid N L n s d σ τ t c) (ho:c.over=false) (hr:c.r.over=0) {x:Bool} {link head:Nat} (hl:LZ N link) (hk:c.op.key<64) (hx:if x=true then (t.cell c.op.key).isSome=true else t.cell c.op.key=none∧LZ N head):Out N L n s d σ (τ.slot s x link head):=by
 unfold St.slot
 by_cases h0:link=0
 · rw[if_pos h0]
   have m2:=m.take;have ht:=m.sh.take.2
   cases e:τ.take with
   |mk τ2 o=>
    rw[e] at m2 ht
    cases o with
    |none=>exact⟨t,c,m2,ho,hr,trivial⟩
    |some l=>
     refine⟨t,c,m2.vals _ _,ho,hr,ht l rfl,hk,hx⟩
 · rw[if_neg h0]
   exact⟨t,c,m.vals _ _,ho,hr,hl.of h0,hk,hx⟩
theorem freeK_out (m:Mid N L n s d σ τ t c) (ho:c.over=false) (hr:c.r.over=0) {link head at_:Nat} (hl:LZ N link) (hh:LZ N head) (ha:LZ N at_) (hk:c.op.key<64) (hx:t.cell c.op.key=none):Out N L n s d σ (τ.freeK s link head at_):=by
 unfold St.freeK
 split
 · exact slot_out m ho hr hl hk (by simp only[Bool.false_eq_true,if_false];exact⟨hx,hh⟩)
 · rename_i h0
   exact⟨t,c,m,ho,hr,hl,hh,ha.of h0,hx,hk⟩
theorem lost_out (m:Mid N L n s d σ τ t c) (ho:c.over=false) (hr:c.r.over=0) (link:Nat):Out N L (n+1) s d σ (τ.lost link):=by
 unfold St.lost
 split
 · exact⟨t,c,m.give link,ho,hr,trivial⟩
 · exact⟨t,c,m.mono (Nat.le_succ _),ho,hr,trivial⟩
theorem hunt_cong {t t2:Txn} {h:Hunt} (hh:HuntOk t c h) (e1:t2.cells=t.cells) (e2:t2.reads=t.reads):HuntOk t2 c h:=by
 refine⟨hh.1,?_⟩;have:=hh.2
 cases e:h.thn with
 |get=>trivial
 |scan k=>rw[e] at this;exact this
 |change=>rw[e] at this;exact⟨this.1,by unfold Txn.cell;rw[e1];exact this.2⟩
 |judge i l=>rw[e] at this;show i<t2.reads.length;rw[e2];exact this
theorem thn_out (m:Mid N L n s d σ τ t c) (ho:c.over=false) (hr:c.r.over=0) {h:Hunt} (hh:HuntOk t c h) {link:Nat} (hl:LZ N link):Out N L (n+1) s d σ (τ.thn s h link):=by
 obtain⟨key,at_,thn⟩:=h;obtain⟨hk,h2⟩:=hh;unfold St.thn
 cases thn with
 |get=>
  simp only;have m2:=m.read key link (link !=0) hk
  split
  · exact⟨_,c,m2,ho,hr,rfl,Nat.zero_le _⟩
  · exact⟨_,c,m2,ho,hr,rfl,Nat.zero_le _⟩
 |scan k=>
  obtain⟨rfl,hhi,hp⟩:=h2;simp only at hk hp hhi ⊢;have m2:=m.read k link false hk;unfold St.scan
  by_cases h0:link=0
  · rw[if_pos h0]
    exact scan_out (key:=0) _ (k+1) _ c m2 ho hr hhi (by omega) (by omega)
  · rw[if_neg h0]
    exact scan_out (key:=0) _ (k+1) _ _ (m2.tell k ((τ.read s k link false).valueOf link)) ho hr hhi (by omega) (by simp;omega)
 |change=>
  obtain⟨hkk,hx⟩:=h2;simp only at hk hkk ⊢;rw[m.ec];have hk2:c.op.key<64:=by omega
  split
  · exact⟨_,c,m.read _ link false hk2,ho,hr,rfl,Nat.zero_le _⟩
  split
  · exact⟨_,c,m.read _ link false hk2,ho,hr,rfl,Nat.zero_le _⟩
  split
  · exact⟨t,c,m.mono (Nat.le_succ _),ho,hr,.inl rfl,hx,hk2⟩
  · rename_i h0
    exact⟨t,c,m.mono (Nat.le_succ _),ho,hr,hl.of h0,hx,hk2⟩
 |judge i l=>
  simp only at h2 ⊢
  split
  · exact⟨t,c,m.mono (Nat.le_succ _),ho,hr,trivial⟩
  · refine⟨t,c,m.mono (Nat.le_succ _),ho,hr,?_⟩
    show KOk N L t c (judgeK (τ.t s) (i+1));rw[m.et];exact judgeK_ok m.t1 h2
theorem visit_out (m:Mid N L n s d σ τ t c) (ho:c.over=false) (hr:c.r.over=0) {h:Hunt} (hh:HuntOk t c h) {link:Nat} (hl:LZ N link):Out N L (n+1) s d σ (τ.visit s h link):=by
 unfold St.visit
 split
 · exact thn_out m ho hr hh (.inl rfl)
 · rename_i h0
   exact⟨t,c,m.mono (Nat.le_succ _),ho,hr,hh,hl.of h0⟩
theorem seen_out (m:Mid N L n s d σ τ t c) (ho:c.over=false) (hr:c.r.over=0) {h:Hunt} (hh:HuntOk t c h) {link mb:Nat} (hl:LK N link) (hm:mb≤2000):Out N L (n+1) s d σ (τ.seen s h link mb):=by
 unfold St.seen
 split
 · exact thn_out m ho hr hh (.inr hl)
 · exact⟨t,c,m.mono (Nat.le_succ _),ho,hr,hh,hl,hm⟩
end
section
variable {N L n s d:Nat} {σ τ:St} {t:Txn} {c:Cal}
def Ran (N L n s d:Nat) (σ:St) (r:St×Option K):Prop:=match r.2 with
 |some k=>Out N L n s d σ (r.1,k)
 |none=>∃ t c,Mid N L n s d σ r.1 t c∧c.over=true∧c.waits=false∧((c.r.over=0∧c.r.pairs.length≤64)∨((c.r.over=3∨c.r.over=4)∧c.r.pairs=[]))
theorem Out.ran {r:St×K} (h:Out N L n s d σ r):Ran N L n s d σ (r.1,some r.2):=h
theorem rd_two {w:Nat} (h:Wd w) (e:(rd w).1=2):(rd w).2≤2000:=h e
theorem Sh.slot (h:Sh N L n τ) {l:Nat} (hl:LK N l):Wd (τ.word (wslot l 0))∧Wd (τ.word (wslot l 1))∧LZ N (τ.word (wslot l 2)):=by
 have:=hl.slotOf;refine⟨(h.wd _).be ?_ ?_ ?_,(h.wd _).be ?_ ?_ ?_,(h.wd _).nx ?_ ?_ ?_⟩<;>(unfold wslot;omega)
theorem Sh.head (h:Sh N L n τ) {key:Nat} (hk:key<64):LZ N (τ.word (9+key)):=(h.wd _).hd (by omega) (by omega)
theorem Wd_time {x:Nat} (h:x≤1099511627776):Wd x:=by
 unfold Wd rd tm;rw[if_pos h];intro e;cases e
theorem Wd_ever:Wd ever:=by unfold Wd;decide
theorem rd_mine (h:TX N L n t):rd (mine t)=(2,t.id):=by
 have:=h.i1;have:=h.i2;unfold rd mine tm ever txnBit;rw[if_neg (by omega),if_neg (by omega),if_pos (by omega)];simp
theorem Wd_mine (h:TX N L n t):Wd (mine t):=by
 intro _;rw[rd_mine h];exact h.i2
theorem mine_lt (h:TX N L n t):mine t<18446744073709551616:=by have:=h.i2;unfold mine txnBit;omega
theorem slot_ok {l w v:Nat} (hl:LK N l) (hw:w<2) (hv:v<18446744073709551616) (hd:Wd v):WOk N L (wslot l w) v:=by
 have:=hl.slotOf;refine⟨hv,fun e=>?_,fun _ e=>?_,fun _ e=>?_,fun _ _ e=>?_,fun _ _ _=>hd⟩<;>(unfold wslot at e;omega)
theorem next_ok {l v:Nat} (hl:LK N l) (hv:LZ N v):WOk N L (wslot l 2) v:=by
 have:=hl.slotOf;refine⟨?_,fun e=>?_,fun _ e=>?_,fun _ e=>?_,fun _ _ _=>hv,fun _ _ e=>?_⟩
 · rcases hv with rfl|h
   · decide
   · exact h.u
 all_goals (unfold wslot at e;omega)
theorem head_ok {key v:Nat} (hk:key<64) (hv:LZ N v):WOk N L (9+key) v:=by
 refine⟨?_,fun e=>?_,fun _ e=>?_,fun _ _=>hv,fun e _ _=>?_,fun e _ _=>?_⟩
 · rcases hv with rfl|h
   · decide
   · exact h.u
 all_goals omega
theorem place_ok {id v:Nat} (hv:v<18446744073709551616):WOk N L (73+N*3+id) v:=by
 refine⟨hv,fun e=>?_,fun _ e=>?_,fun _ e=>?_,fun _ e _=>?_,fun _ e _=>?_⟩<;>omega
theorem Sh.place (h:Sh N L n τ) (id:Nat):τ.place id=73+N*3+id:=by unfold St.place;rw[h.sl]
theorem live_ok (s8:s<8) {v:Nat} (hv:v≤L) (hl:L≤1099511627776):WOk N L (1+s) v:=by
 refine⟨by omega,fun e=>?_,fun _ _=>hv,fun e _=>?_,fun e _ _=>?_,fun e _ _=>?_⟩<;>omega
theorem clock_ok {x id:Nat} (hx:x≤L) (hl:L≤1099511627776) (hid:id≤2000):WOk N L 0 (clockW x id):=by
 refine⟨by unfold clockW;omega,fun _=>⟨by unfold timeOf clockW;omega,by unfold lastOf clockW;omega⟩,fun e _=>?_,fun e _=>?_,fun e _ _=>?_,fun e _ _=>?_⟩<;>omega
theorem pack_lt {x e:Nat} (hx:x<8) (he:e≤1099511627776):pack x e<18446744073709551616:=by unfold pack;omega
theorem Mid.help (m:Mid N L n s d σ τ t c) {w:Nat} (hw:timeOf w≤L):Mid N L n s (d+1) σ (τ.help w) t c:=by
 unfold St.help;rw[m.sh.place];exact m.cas (place_ok (pack_lt (by omega) (Nat.le_trans hw m.sh.l1)))
theorem tx_take (h:TX N L n t) (key:Nat) (x:Cel) (h1:LZ N x.own) (h2:LZ N x.old) (h3:x.there=true→LK N x.own):TX N L (n+1) {t with cells:=(key,x)::t.cells,keys:=t.keys++[key]}:=by
 refine⟨h.i1,h.i2,h.op,h.bg,h.en,fun p hp=>?_,fun k hk=>?_,?_,h.rd,Nat.le_succ_of_le h.rn,h.bd,Nat.le_succ_of_le h.bn⟩
 · have hp':p∈(key,x)::t.cells:=hp
   rw[List.mem_cons] at hp'
   rcases hp' with rfl|hp'
   · exact⟨h1,h2,h3⟩
   · exact h.ce p hp'
 · have hk':k∈t.keys++[key]:=hk
   show ∃ y,((key,x)::t.cells).lookup k=some y;rw[List.lookup_cons]
   by_cases e:k=key
   · subst e;exact⟨x,by simp⟩
   · rw[beq_false_of_ne e]
     rw[List.mem_append] at hk'
     rcases hk' with hk'|hk'
     · exact h.ky k hk'
     · simp at hk';exact absurd hk' e
 · show (t.keys++[key]).length≤_
   rw[List.length_append];have:=h.kn;simp;omega
theorem lookup_upd (l:List (Nat×Cel)) (key:Nat) (x:Cel) (k:Nat):(upd l key x).lookup k=(l.lookup k).map (fun y=>if k=key then x else y):=by
 unfold upd
 induction l with
 |nil=>rfl
 |cons a l ih=>
  obtain⟨k1,y⟩:=a
  by_cases h1:k1=key
  · subst h1
    simp only[List.map_cons,if_true];rw[List.lookup_cons,List.lookup_cons]
    by_cases h2:k=k1
    · subst h2;simp
    · rw[beq_false_of_ne h2];simpa using ih
  · simp only[List.map_cons,if_neg h1]
    rw[List.lookup_cons,List.lookup_cons]
    by_cases h2:k=k1
    · subst h2;simp[h1]
    · rw[beq_false_of_ne h2];simpa using ih
theorem tx_setX (h:TX N L n t) (key:Nat) (x:Cel) (h1:LZ N x.own) (h2:LZ N x.old) (h3:x.there=true→LK N x.own):TX N L n {t with cells:=upd t.cells key x}:=by
 refine⟨h.i1,h.i2,h.op,h.bg,h.en,fun p hp=>?_,fun k hk=>?_,h.kn,h.rd,h.rn,h.bd,h.bn⟩
 · have hp':p∈upd t.cells key x:=hp
   unfold upd at hp';rw[List.mem_map] at hp';obtain⟨q,hq,rfl⟩:=hp'
   split
   · exact⟨h1,h2,h3⟩
   · exact h.ce q hq
 · obtain⟨y,hy⟩:=h.ky k hk
   show ∃ y,(upd t.cells key x).lookup k=some y;rw[lookup_upd,show t.cells.lookup k=some y from hy];exact⟨_,rfl⟩
theorem commit_turns (h:TX N L n t) (hl:L≤1099511627776) (σ:St):∀ x∈commitTurns σ t,WOk N L x.at_ x.new∧73≤x.at_∧x.at_<73+N*3:=by
 intro x hx;unfold commitTurns at hx;rw[List.mem_flatMap] at hx;obtain⟨key,hk,hx⟩:=hx;obtain⟨y,hy⟩:=h.ky key hk;rw[hy] at hx;simp only[Option.getD_some] at hx;obtain⟨ho,hd,-⟩:=h.cell hy;have he:t.end_<18446744073709551616:=by have:=h.en;omega
 have hw:Wd t.end_:=Wd_time (Nat.le_trans h.en hl);have hin:∀ l w,LK N l→w<2→WOk N L (wslot l w) t.end_∧73≤wslot l w∧wslot l w<73+N*3:=by
  intro l w hl hw2;have:=hl.slotOf;exact⟨slot_ok hl hw2 he hw,by unfold wslot;omega,by unfold wslot;omega⟩
 rw[List.mem_append] at hx
 rcases hx with hx|hx
 · split at hx
   · rename_i h0
     rw[List.mem_cons] at hx
     rcases hx with rfl|hx
     · exact hin _ _ (ho.of h0) (by omega)
     · split at hx
       · cases hx
       · simp at hx;subst hx;exact hin _ _ (ho.of h0) (by omega)
   · cases hx
 · split at hx
   · rename_i h0
     simp at hx;subst hx;exact hin _ _ (hd.of h0) (by omega)
   · cases hx
theorem abort_turns (h:TX N L n t) (σ:St):∀ x∈abortTurns σ t,WOk N L x.at_ x.new∧73≤x.at_∧x.at_<73+N*3:=by
 intro x hx;unfold abortTurns at hx;rw[List.mem_flatMap] at hx;obtain⟨key,hk,hx⟩:=hx;obtain⟨y,hy⟩:=h.ky key hk;rw[hy] at hx;simp only[Option.getD_some] at hx;obtain⟨ho,hd,-⟩:=h.cell hy
 split at hx
 · rename_i h0
   simp at hx;subst hx;have:=(hd.of h0).slotOf;refine⟨slot_ok (hd.of h0) (by omega) (by show ever<_;decide) Wd_ever,?_,?_⟩
   · show 73≤wslot y.old 1;unfold wslot;omega
   · show wslot y.old 1<73+N*3;unfold wslot;omega
 · cases hx
theorem tx_over (h:TX N L n t):TX N L n {t with over:=true}:=⟨h.i1,h.i2,h.op,h.bg,h.en,h.ce,h.ky,h.kn,h.rd,h.rn,h.bd,h.bn⟩
theorem Mid.tellEnd (m:Mid N L n s d σ τ t c) (e:Ev) (he:e.res.pairs.length≤64:=by exact Nat.zero_le _):∃ t2,Mid N L (n+1) s d σ (τ.tellEnd s e) t2 c∧t2={t with over:=true}:=by
 unfold St.tellEnd;rw[m.et]
 split
 · rename_i ho
   refine⟨t,m.mono (Nat.le_succ _),?_⟩
   cases t;simp at ho;simp[ho]
 · exact⟨_,(m.setT (tx_over m.t1)).event e,rfl⟩
set_option maxHeartbeats 1600000 in
theorem run_ran (m:Mid N L n s 0 σ σ t c) (ho:c.over=false) (hr:c.r.over=0) (hw:c.waits=false) {k:K} (hk:KOk N L t c k):∃ d,d≤1∧Ran N L (n+2) s d σ (σ.run s k):=by
 have mt:=m.tick;have et:=m.et;have ec:=m.ec
 cases k with
 |fin r=>
  refine⟨0,by omega,t,_,(m.mono (by omega)).setC {σ.c s with r:=r,over:=true} ⟨by rw[ec],by rw[ec]⟩,rfl,by rw[ec];exact hw,.inl hk⟩
 |start h=>exact⟨1,by omega,(visit_out mt ho hr hk (m.sh.head hk.1)).mono (by omega)⟩
 |visit h link=>
  obtain⟨hh,hl⟩:=hk;refine⟨1,by omega,t,c,mt.mono (by omega),ho,hr,?_⟩;show KOk N L t c (σ.tick.beginK s h link _);unfold St.beginK
  split
  · exact⟨hh,hl,Nat.zero_le _⟩
  split
  · exact⟨hh,hl⟩
  · rename_i h2
    exact⟨hh,hl,rd_two (m.sh.slot hl).1 (Classical.byContradiction fun e=>h2 (.inl e))⟩
 |older h link=>
  obtain⟨hh,hl⟩:=hk;exact⟨1,by omega,(visit_out mt ho hr hh (m.sh.slot hl).2.2).mono (by omega)⟩
 |maker h link id=>
  obtain⟨hh,hl,hid⟩:=hk;refine⟨1,by omega,?_⟩;simp only[St.run]
  split
  · exact⟨t,c,mt.mono (by omega),ho,hr,hh,hl⟩
  split
  · exact⟨t,c,mt.mono (by omega),ho,hr,hh,hl,hid⟩
  · exact⟨t,c,mt.mono (by omega),ho,hr,hh,hl,Nat.zero_le _⟩
 |ended h link mb=>
  obtain⟨hh,hl,hm⟩:=hk;refine⟨1,by omega,?_⟩;simp only[St.run]
  split
  · exact⟨t,c,mt.mono (by omega),ho,hr,hh,hl⟩
  split
  · exact (seen_out mt ho hr hh hl hm).mono (by omega)
  · rename_i h2
    exact⟨t,c,mt.mono (by omega),ho,hr,hh,hl,hm,rd_two (m.sh.slot hl).2.1 (Classical.byContradiction fun e=>h2 (.inl e))⟩
 |ender h link mb id=>
  obtain⟨hh,hl,hm,hid⟩:=hk;refine⟨1,by omega,?_⟩;simp only[St.run]
  split
  · exact (seen_out mt ho hr hh hl hm).mono (by omega)
  split
  · obtain⟨t2,m2,e1,e2,-⟩:=mt.bind id hid
    exact⟨t2,c,m2.mono (by omega),ho,hr,hunt_cong hh e1 e2,hl⟩
  · exact⟨t,c,mt.mono (by omega),ho,hr,hh,hl⟩
 |seen h link mb=>
  obtain⟨hh,hl,hm⟩:=hk;refine⟨1,by omega,?_⟩;simp only[St.run]
  split
  · exact⟨t,c,mt.mono (by omega),ho,hr,hh⟩
  · split
    · obtain⟨t2,m2,e1,e2,-⟩:=mt.bind mb hm
      exact (thn_out m2 ho hr (hunt_cong hh e1 e2) (.inr hl)).mono (by omega)
    · exact (thn_out mt ho hr hh (.inr hl)).mono (by omega)
 |again en=>
  obtain⟨h1,h2,x,hx,hxo⟩:=hk;refine⟨1,by omega,?_⟩;have ex:σ.x s c.op.key=x:=by unfold St.x;rw[et,hx];rfl
  simp only[St.run,ec,ex];have m1:=m.put (slot_ok (w:=1) hxo (by omega) h1 h2);have m2:=m1.setT (tx_setX m1.t1 c.op.key {x with there:=(c.op.kind !=4)} (m.t1.cell hx).1 (m.t1.cell hx).2.1 (fun _=>hxo));have e3:((σ.put (wslot x.own 1) en).c s).op.kind=c.op.kind:=by rw[m1.ec]
  have e4:((σ.put (wslot x.own 1) en).setX s c.op.key {x with there:=(c.op.kind !=4)})=((σ.put (wslot x.own 1) en).setT s {t with cells:=upd t.cells c.op.key {x with there:=(c.op.kind !=4)}}):=by unfold St.setX;rw[m1.et]
  rw[e3,e4]
  split
  · exact⟨_,c,(m2.mono (by omega)).vals _ _,ho,hr,rfl,Nat.zero_le _⟩
  · exact⟨_,c,m2.mono (by omega),ho,hr,rfl,Nat.zero_le _⟩
 |own link=>
  obtain⟨hl,hx,hkk⟩:=hk;refine⟨1,by omega,?_⟩;simp only[St.run]
  split
  · exact⟨t,c,mt.mono (by omega),ho,hr,hl,hx,hkk⟩
  split
  · rename_i h2
    exact⟨t,c,mt.mono (by omega),ho,hr,hl,hx,hkk,rd_two (m.sh.slot hl).2.1 h2⟩
  · exact⟨t,c,mt.mono (by omega),ho,hr,trivial⟩
 |ownTxn link w id=>
  obtain⟨hl,hx,hkk,hid⟩:=hk;refine⟨1,by omega,?_⟩;simp only[St.run]
  split
  · exact⟨t,c,mt.mono (by omega),ho,hr,trivial⟩
  · exact⟨t,c,mt.mono (by omega),ho,hr,hl,hx,hkk⟩
 |claim link w=>
  obtain⟨hl,hx,hkk⟩:=hk;refine⟨1,by omega,?_⟩;have m1:=m.cas (o:=w) (slot_ok (L:=L) (w:=1) hl (by omega) (mine_lt m.t1) (Wd_mine m.t1));simp only[St.run,et]
  split
  · exact⟨t,c,m1.mono (by omega),ho,hr,hl,hx,hkk⟩
  · have m2:=(m1.mono (Nat.le_succ n)).setT (tx_take m1.t1 c.op.key ⟨0,link,false⟩ (.inl rfl) (.inr hl) (by simp))
    have e1:(σ.cas (wslot link 1) w (mine t)).takeKey s ((σ.cas (wslot link 1) w (mine t)).c s).op.key ⟨0,link,false⟩=(σ.cas (wslot link 1) w (mine t)).setT s {t with cells:=(c.op.key,⟨0,link,false⟩)::t.cells,keys:=t.keys++[c.op.key]}:=by
     unfold St.takeKey;rw[m1.et,m1.ec]
    rw[e1,m2.ec]
    split
    · exact⟨_,c,m2.mono (by omega),ho,hr,rfl,Nat.zero_le _⟩
    · refine (slot_out (m2.mono (by omega)) ho hr (.inl rfl) hkk ?_).ran
      simp only[if_true];show (List.lookup c.op.key ((c.op.key,_)::t.cells)).isSome=true;rw[List.lookup_cons];simp
 |fresh link=>
  obtain⟨hl,hx,hkk⟩:=hk;refine⟨1,by omega,?_⟩;simp only[St.run,ec];exact (freeK_out (mt.mono (by omega)) ho hr hl (m.sh.head hkk) (m.sh.head hkk) hkk hx).ran
 |next link head at_=>
  obtain⟨hl,hh,ha,hx,hkk⟩:=hk;refine⟨1,by omega,?_⟩;simp only[St.run];exact (freeK_out (mt.mono (by omega)) ho hr hl hh (m.sh.slot ha).2.2 hkk hx).ran
 |free link head at_=>
  obtain⟨hl,hh,ha,hx,hkk⟩:=hk;refine⟨1,by omega,?_⟩;simp only[St.run]
  split
  · exact⟨t,c,mt.mono (by omega),ho,hr,hl,hh,ha,hx,hkk⟩
  split
  · exact ((lost_out mt ho hr link).mono (by omega)).ran
  · rename_i h2
    exact⟨t,c,mt.mono (by omega),ho,hr,hl,hh,ha,rd_two (m.sh.slot ha).1 (Classical.byContradiction fun e=>h2 e),hx,hkk⟩
 |freeTxn link head at_ id=>
  obtain⟨hl,hh,ha,hid,hx,hkk⟩:=hk;refine⟨1,by omega,?_⟩;simp only[St.run]
  split
  · exact⟨t,c,mt.mono (by omega),ho,hr,hl,hh,ha,hx,hkk⟩
  · exact ((lost_out mt ho hr link).mono (by omega)).ran
 |slotB x link head=>
  obtain⟨hl,hkk,hx⟩:=hk;refine⟨1,by omega,?_⟩;simp only[St.run,et];exact⟨t,c,(m.put (slot_ok hl (by omega) (mine_lt m.t1) (Wd_mine m.t1))).mono (by omega),ho,hr,hl,hkk,hx⟩
 |slotE x link head=>
  obtain⟨hl,hkk,hx⟩:=hk;refine⟨1,by omega,?_⟩;simp only[St.run];refine⟨t,c,(m.put (slot_ok hl (by omega) (by decide) Wd_ever)).mono (by omega),ho,hr,?_⟩
  cases x with
  |true=>exact⟨hl,hx,hkk⟩
  |false=>
   simp only[Bool.false_eq_true,if_false] at hx;exact⟨hl,hx.2,hx.1,hkk⟩
 |push link head=>
  obtain⟨hl,hh,hx,hkk⟩:=hk;refine⟨1,by omega,t,c,(m.put (next_ok hl hh)).mono (by omega),ho,hr,hl,hh,hx,hkk⟩
 |pushC link head=>
  obtain⟨hl,hh,hx,hkk⟩:=hk;refine⟨1,by omega,?_⟩;have m1:=m.cas (o:=head) (head_ok (L:=L) hkk (.inr hl));simp only[St.run,ec]
  split
  · exact⟨t,c,m1.mono (by omega),ho,hr,.inr hl,hx,hkk⟩
  · have m2:=(m1.mono (Nat.le_succ n)).setT (tx_take m1.t1 c.op.key ⟨link,0,true⟩ (.inr hl) (.inl rfl) (fun _=>hl))
    have e1:(σ.cas (9+c.op.key) head link).takeKey s c.op.key ⟨link,0,true⟩=(σ.cas (9+c.op.key) head link).setT s {t with cells:=(c.op.key,⟨link,0,true⟩)::t.cells,keys:=t.keys++[c.op.key]}:=by
     unfold St.takeKey;rw[m1.et]
    rw[e1];exact⟨_,c,m2.mono (by omega),ho,hr,rfl,Nat.zero_le _⟩
 |over link=>
  obtain⟨hl,hx,hkk⟩:=hk;refine⟨1,by omega,t,c,mt.mono (by omega),ho,hr,?_⟩;rw[ec];exact⟨hl,m.sh.head hkk,hx,hkk⟩
 |overN link head=>
  obtain⟨hl,hh,hx,hkk⟩:=hk;exact⟨1,by omega,t,c,(m.put (next_ok hl hh)).mono (by omega),ho,hr,hl,hh,hx,hkk⟩
 |overC link head=>
  obtain⟨hl,hh,hx,hkk⟩:=hk;refine⟨1,by omega,?_⟩;have m1:=m.cas (o:=head) (head_ok (L:=L) hkk (.inr hl));simp only[St.run,ec]
  split
  · exact⟨t,c,m1.mono (by omega),ho,hr,hl,hx,hkk⟩
  · obtain⟨x,hxx⟩:=Option.isSome_iff_exists.1 hx
    have ex:(σ.cas (9+c.op.key) head link).x s c.op.key=x:=by unfold St.x;rw[m1.et,hxx];rfl
    rw[ex];have m2:=m1.setT (tx_setX m1.t1 c.op.key {x with own:=link,there:=true} (.inr hl) (m.t1.cell hxx).2.1 (fun _=>hl));have e4:((σ.cas (9+c.op.key) head link).setX s c.op.key {x with own:=link,there:=true})=((σ.cas (9+c.op.key) head link).setT s {t with cells:=upd t.cells c.op.key {x with own:=link,there:=true}}):=by unfold St.setX;rw[m1.et]
    rw[e4];exact⟨_,c,m2.mono (by omega),ho,hr,rfl,Nat.zero_le _⟩
 |draw=>
  refine⟨1,by omega,?_⟩;have hc:=(m.sh.wd 0).ck rfl;simp only[St.run]
  split
  · exact⟨t,c,mt.mono (by omega),ho,hr,trivial⟩
  · rename_i hlim
    have hlt:timeOf (σ.word 0)<L:=by have:=m.sh.lm;have h2:¬ σ.limit≤timeOf (σ.word 0):=hlim;omega
    split
    · exact⟨t,c,mt.mono (by omega),ho,hr,hlt⟩
    · exact⟨t,c,mt.mono (by omega),ho,hr,(m.sh.wd 0).u,hc.2,hlt,hc.1⟩
 |drawH w now=>
  obtain⟨h1,h2,h3,h4⟩:=hk;exact⟨1,by omega,t,c,(m.help h4).mono (by omega),ho,hr,h3⟩
 |turn w now=>
  refine⟨1,by omega,?_⟩;have hn:now<L:=hk;have m1:=m.cas (o:=w) (clock_ok (N:=N) (show now+1≤L by omega) m.sh.l1 m.t1.i2);simp only[St.run,et]
  split
  · exact⟨t,c,m1.mono (by omega),ho,hr,trivial⟩
  · have h:=m1.t1
    rw[m1.et];have m2:=(m1.setT (t2:={t with end_:=now+1}) ⟨h.i1,h.i2,h.op,h.bg,by show now+1≤L;omega,h.ce,h.ky,h.kn,h.rd,h.rn,h.bd,h.bn⟩).event {kind:=3,t:=t.id,n:=now+1};exact⟨_,c,m2.mono (show n+1≤n+2 by omega),ho,hr,trivial⟩
 |helpJ=>
  refine⟨1,by omega,?_⟩;have he:timeOf (clockW t.end_ t.id)=t.end_:=by unfold timeOf clockW;have:=m.t1.i2;omega
  have m1:=m.help (w:=clockW t.end_ t.id) (by rw[he];exact m.t1.en);simp only[St.run,et];refine⟨t,c,m1.mono (by omega),ho,hr,?_⟩;rw[m1.et];exact judgeK_ok m1.t1 (Nat.zero_le _)
 |wait i=>
  refine⟨1,by omega,?_⟩;have hi:i<t.bonds.length:=hk;simp only[St.run]
  split
  · refine⟨t,c,mt.mono (by omega),ho,hr,?_⟩
    show KOk N L t c (waitK (σ.tick.t s) (i+1));rw[mt.et];exact waitK_ok hi
  split
  · exact⟨t,c,mt.mono (by omega),ho,hr,trivial⟩
  · rw[mt.ec]
    exact⟨t,_,(mt.mono (by omega)).setC {c with waits:=true} ⟨rfl,rfl⟩,ho,hr,hi⟩
 |commit=>
  refine⟨1,by omega,?_⟩;simp only[St.run,et];have m1:=m.put (i:=σ.place t.id) (v:=pack 3 t.end_) (by rw[m.sh.place];exact place_ok (pack_lt (by omega) (Nat.le_trans m.t1.en m.sh.l1)));obtain⟨t2,m2,rfl⟩:=m1.tellEnd {kind:=5,t:=t.id};exact⟨_,c,m2.mono (by omega),ho,hr,by simp,rfl,commit_turns m.t1 m.sh.l1 _⟩
 |abort e reason=>
  refine⟨1,by omega,?_⟩;simp only[St.run,et];have m1:=m.put (i:=σ.place t.id) (v:=pack 4 t.end_) (by rw[m.sh.place];exact place_ok (pack_lt (by omega) (Nat.le_trans m.t1.en m.sh.l1)));obtain⟨t2,m2,rfl⟩:=m1.tellEnd {kind:=6,t:=t.id,res:={reason:=reason}};exact⟨_,c,m2.mono (by omega),ho,hr,by simp,rfl,abort_turns m.t1 _⟩
 |turns l r=>
  obtain⟨h1,h2,h3⟩:=hk
  cases l with
  |nil=>
   refine⟨1,by omega,?_⟩;have m1:=m.put (i:=1+s) (v:=0) (live_ok m.s8 (Nat.zero_le _) m.sh.l1);exact⟨t,_,(m1.mono (by omega)).setC {(σ.put (1+s) 0).c s with r:=r,over:=true} ⟨by rw[m1.ec],by rw[m1.ec]⟩,rfl,by rw[m1.ec];exact hw,.inr ⟨h1,h2⟩⟩
  |cons x l=>
   refine⟨1,by omega,?_⟩;have hx:=(h3 x List.mem_cons_self).1;simp only[St.run];refine⟨t,c,?_,ho,hr,h1,h2,fun y hy=>h3 y (List.mem_cons_of_mem _ hy)⟩
   split
   · exact (m.put hx).mono (by omega)
   · exact (m.cas hx).mono (by omega)
end
section
variable {N L n s d:Nat} {σ τ:St} {t:Txn} {c:Cal}
theorem vl_of {l:Nat} (h:LK N l) (hs:σ.slots=N):vl σ l=true:=by
 unfold vl;rw[hs];simp only[Bool.and_eq_true,decide_eq_true_eq];exact⟨⟨h.lo,h.hi⟩,h.u⟩
theorem vl0_of {l:Nat} (h:LZ N l) (hs:σ.slots=N):vl0 σ l=true:=by
 unfold vl0
 rcases h with rfl|h
 · rfl
 · rw[vl_of h hs];simp
theorem small_of (h:Sh N L n σ) (i:Nat):small σ i=true:=by unfold small;simp only[decide_eq_true_eq];exact (h.wd i).u
theorem okPool_of (h:Sh N L n σ) (hn:n<999990):okPool σ=true:=by
 unfold okPool;simp only[Bool.and_eq_true,decide_eq_true_eq,List.all_eq_true];have h1:=h.pool.len;have h2:=h.n1;have h3:=h.wn;refine⟨⟨⟨by omega,fun i hi=>by rw[h.sl];exact (h.pool.fr i hi).1⟩,fun p hp=>?_⟩,by omega⟩;obtain⟨i,hi,rfl⟩:=List.mem_iff_getElem.1 hp;have:=h.pool.tg i;rw[List.getD_eq_getElem?_getD,List.getElem?_eq_getElem hi] at this;exact this
theorem okKeys_of (h:TX N L n t) (hs:σ.slots=N):okKeys σ t=true:=by
 unfold okKeys;rw[List.all_eq_true];intro k hk;obtain⟨x,hx⟩:=h.ky k hk;rw[hx];simp only[Bool.and_eq_true];exact⟨vl0_of (h.cell hx).1 hs,vl0_of (h.cell hx).2.1 hs⟩
theorem okCels_of (h:TX N L n t) (hs:σ.slots=N):okCels σ t=true:=by
 unfold okCels;rw[List.all_eq_true];intro p hp;have:=(h.ce p hp).2.2
 cases e:p.2.there with
 |false=>rfl
 |true=>rw[e] at this;simp[vl_of (this rfl) hs]
theorem okThn_of (m:Mid N L n s d σ τ t c) (hn:n<999990) {h:Hunt} (hh:HuntOk t c h) {link:Nat} (hl:LZ N link):okThn τ s h link=true:=by
 obtain⟨key,at_,thn⟩:=h;obtain⟨hk,h2⟩:=hh;unfold okThn;rw[m.et,m.ec];have hr:=m.t1.rn;rw[show decide (t.reads.length<1000000)=true by simp;omega,Bool.true_and]
 cases thn with
 |get=>exact vl0_of hl m.sh.sl
 |scan k=>
  obtain⟨rfl,hhi,hp⟩:=h2;simp only at hk hp;simp only[Bool.and_eq_true,decide_eq_true_eq];exact⟨⟨⟨⟨⟨trivial,vl0_of hl m.sh.sl⟩,by omega⟩,hhi⟩,okCels_of m.t1 m.sh.sl⟩,by omega⟩
 |change=>simp only[decide_eq_true_eq];exact h2.1
 |judge i l=>simp only[decide_eq_true_eq];exact h2
set_option maxHeartbeats 800000 in
theorem okK_of (m:Mid N L n s 0 σ σ t c) (hct:σ.count<3000000000000000000) (hn:n<999980) {k:K} (hk:KOk N L t c k):okK σ s k=true:=by
 have mt:=m.tick;have sl:=m.sh.sl;have h1:=m.t1.i1;have h2:=m.t1.i2;have hb:=m.t1.bn;have hky:=m.t1.kn;have htl:=m.sh.tl;have hrn:=m.t1.rn;have hen:=m.t1.en;have hl1:=m.sh.l1;have hbinds:okBinds σ s=true:=by
  unfold okBinds;rw[m.et];simp only[Bool.and_eq_true,decide_eq_true_eq];omega
 unfold okK;rw[show decide (σ.count<3000000000000000000)=true by simpa using hct,Bool.true_and];rw[m.et,m.ec]
 cases k with
 |fin r=>rfl
 |start h=>simp only[Bool.and_eq_true,decide_eq_true_eq,Bool.or_eq_true];exact⟨hk.1,.inr (okThn_of m (by omega) hk (.inl rfl))⟩
 |visit h link=>simp only[Bool.and_eq_true];exact⟨vl_of hk.2 sl,small_of m.sh _⟩
 |older h link=>simp only[Bool.and_eq_true,Bool.or_eq_true];exact⟨vl_of hk.2 sl,.inr (okThn_of m (by omega) hk.1 (.inl rfl))⟩
 |maker h link id=>simp only[Bool.and_eq_true,decide_eq_true_eq];exact⟨hk.2.2,small_of m.sh _⟩
 |ended h link mb=>simp only[Bool.and_eq_true,Bool.or_eq_true];exact⟨⟨vl_of hk.2.1 sl,small_of m.sh _⟩,.inr (okThn_of m (by omega) hk.1 (.inr hk.2.1))⟩
 |ender h link mb id=>simp only[Bool.and_eq_true,decide_eq_true_eq,Bool.or_eq_true];exact⟨⟨⟨hk.2.2.2,small_of m.sh _⟩,hbinds⟩,.inr (okThn_of m (by omega) hk.1 (.inr hk.2.1))⟩
 |seen h link mb=>
  simp only[Bool.and_eq_true,decide_eq_true_eq];refine⟨⟨⟨hk.2.2,small_of m.sh _⟩,hbinds⟩,?_⟩
  split
  · obtain⟨t2,m2,e1,e2,-⟩:=mt.bind mb hk.2.2
    exact okThn_of m2 (by omega) (hunt_cong hk.1 e1 e2) (.inr hk.2.1)
  · exact okThn_of mt (by omega) hk.1 (.inr hk.2.1)
 |again e=>
  obtain⟨-,-,x,hx,hxo⟩:=hk;simp only[hx];exact vl_of hxo sl
 |own link=>simp only[Bool.and_eq_true];exact⟨vl_of hk.1 sl,small_of m.sh _⟩
 |ownTxn link w id=>simp only[Bool.and_eq_true,decide_eq_true_eq];exact⟨hk.2.2.2,small_of m.sh _⟩
 |claim link w=>simp only[Bool.and_eq_true,decide_eq_true_eq];exact⟨⟨⟨⟨⟨vl_of hk.1 sl,h1⟩,by omega⟩,by rw[hk.2.1];rfl⟩,by omega⟩,okPool_of m.sh (by omega)⟩
 |fresh link=>simp only[Bool.and_eq_true,decide_eq_true_eq];exact⟨⟨vl0_of hk.1 sl,hk.2.2⟩,okPool_of m.sh (by omega)⟩
 |next link head at_=>simp only[Bool.and_eq_true,decide_eq_true_eq];exact⟨⟨vl0_of hk.1 sl,vl_of hk.2.2.1 sl⟩,okPool_of m.sh (by omega)⟩
 |free link head at_=>simp only[Bool.and_eq_true,decide_eq_true_eq];exact⟨⟨⟨vl0_of hk.1 sl,vl_of hk.2.2.1 sl⟩,okPool_of m.sh (by omega)⟩,small_of m.sh _⟩
 |freeTxn link head at_ id=>simp only[Bool.and_eq_true,decide_eq_true_eq];exact⟨⟨⟨vl0_of hk.1 sl,hk.2.2.2.1⟩,small_of m.sh _⟩,okPool_of m.sh (by omega)⟩
 |slotB x link head=>simp only[Bool.and_eq_true,decide_eq_true_eq];exact⟨⟨vl_of hk.1 sl,h1⟩,by omega⟩
 |slotE x link head=>exact vl_of hk.1 sl
 |push link head=>exact vl_of hk.1 sl
 |pushC link head=>simp only[Bool.and_eq_true,decide_eq_true_eq];exact⟨⟨hk.2.2.2,by rw[hk.2.2.1];rfl⟩,by omega⟩
 |over link=>simp only[decide_eq_true_eq];exact hk.2.2
 |overN link head=>exact vl_of hk.1 sl
 |overC link head=>simp only[Bool.and_eq_true,decide_eq_true_eq];exact⟨hk.2.2.2,hk.2.2.1⟩
 |draw=>simp only[decide_eq_true_eq];exact (m.sh.wd 0).u
 |drawH w now=>simp only[Bool.and_eq_true,decide_eq_true_eq];exact⟨hk.1,hk.2.1⟩
 |turn w now=>
  have hn:now<L:=hk;simp only[Bool.and_eq_true,decide_eq_true_eq];omega
 |helpJ=>simp only[Bool.and_eq_true,decide_eq_true_eq];omega
 |wait i=>
  have hi:i<t.bonds.length:=hk;simp only[List.getElem?_eq_getElem hi];simp only[Bool.and_eq_true,decide_eq_true_eq];exact⟨⟨m.t1.bd _ (List.getElem_mem _),small_of m.sh _⟩,by omega⟩
 |commit=>simp only[Bool.and_eq_true,decide_eq_true_eq];exact⟨⟨⟨⟨by omega,h2⟩,by omega⟩,okKeys_of m.t1 sl⟩,by omega⟩
 |abort e r=>simp only[Bool.and_eq_true,decide_eq_true_eq];exact⟨⟨⟨⟨⟨by omega,h1⟩,h2⟩,by omega⟩,okKeys_of m.t1 sl⟩,by omega⟩
 |turns l r=>
  cases l with
  |nil=>rfl
  |cons x l=>
   have:=hk.2.2 x List.mem_cons_self;simp only[decide_eq_true_eq];rw[m.sh.nw];omega
theorem others_of (h1:σ.calls.length=8) (h2:τ.calls.length=8) (h:∀ q,q≠s→τ.calls.getD q none=σ.calls.getD q none):okOthers σ τ s=true:=by
 unfold okOthers;simp only[Bool.and_eq_true,decide_eq_true_eq,List.all_eq_true,Bool.or_eq_true,beq_iff_eq];refine⟨⟨h1,h2⟩,fun q _=>?_⟩
 by_cases e:q=s
 · exact .inl e
 · exact .inr (h q e)
theorem Sh.same {σ':St} (h:Sh N L n σ) (e1:σ'.slots=σ.slots) (e2:σ'.limit=σ.limit) (e3:σ'.words=σ.words) (e4:σ'.tags=σ.tags) (e5:σ'.values=σ.values) (e6:σ'.txns.length=8) (e7:σ'.calls.length=8) (e8:σ'.made=σ.made) (e9:σ'.free=σ.free) (e10:σ'.listed=σ.listed) (e11:σ'.worn=σ.worn) (e12:σ'.tale=σ.tale):Sh N L n σ':=by
 refine⟨by rw[e1];exact h.sl,by rw[e2];exact h.lm,h.n1,h.l1,by rw[e3];exact h.nw,by rw[e4];exact h.nt,by rw[e5];exact h.nv,e6,e7,by rw[e8];exact h.md,fun i=>?_,⟨fun i hi=>?_,by rw[e9];exact h.pool.nd,fun i=>by rw[e4];exact h.pool.tg i,fun e=>?_,fun e=>?_,fun e=>?_⟩,by rw[e11];exact h.wn,by rw[e12];exact h.tl,by rw[e12];exact h.tp⟩
 · have:σ'.word i=σ.word i:=by unfold St.word;rw[e3]
   rw[this];exact h.wd i
 · rw[e9] at hi;rw[e4];exact h.pool.fr i hi
 · rw[e10] at e;rw[e9,e4];exact h.pool.ls e
 · rw[e10] at e;rw[e11,e4];exact h.pool.w0 e
 · rw[e10] at e;rw[e9,e11,e4];exact h.pool.sm e
theorem SX.same {n':Nat} {σ':St} (h:SX N L n σ) (e1:σ'.sw=σ.sw) (e2:σ'.low=σ.low) (e3:σ'.cut=σ.cut) (e4:σ'.cuts=σ.cuts) (e5:σ.seq≤σ'.seq) (hn:n≤n'):SX N L n' σ':=
 ⟨fun x hx=>h.so x (by rw[←e1];exact hx),by rw[e2];exact h.lo,fun p hp=>by rw[e3] at hp;exact⟨(h.cu p hp).1,Nat.le_trans (h.cu p hp).2 e5⟩,by rw[e3,e4];exact h.cn,by rw[e4];exact Nat.le_trans h.cb hn⟩
theorem WF.mid (h:WF N L n σ) (hs:s<8) {c:Cal} (hc:σ.calls.getD s none=some c):∃ t k,c.k=some k∧σ.txns.getD s none=some t∧Mid N L n s 0 (σ.setC s {c with waits:=false}) (σ.setC s {c with waits:=false}) t {c with waits:=false}∧c.over=false∧c.r.over=0∧KOk N L t {c with waits:=false} k:=by
 obtain⟨t,ht,hC⟩:=h.cx s c hc;obtain⟨k,hk,hkk⟩:=hC.k;refine⟨t,k,hk,ht,⟨hs,h.sh.setC s _,ht,?_,h.tx s t ht,hC.op,fun _ _=>rfl,fun _ _=>rfl,rfl,rfl,rfl,rfl,⟨rfl,rfl,rfl,rfl⟩,?_,?_⟩,hC.ov,hC.ro,?_⟩
 · show (σ.calls.set s _).getD s none=_
   rw[getD_setO _ _ _ _ (by rw[h.sh.c8];exact hs),if_pos rfl]
 · unfold St.c
   rw[show (σ.setC s {c with waits:=false}).calls.getD s none=_ from getD_setO _ _ _ _ (by rw[h.sh.c8];exact hs),if_pos rfl];exact⟨rfl,rfl⟩
 · show t.id=((σ.txns.getD s none).getD default).id
   rw[ht];rfl
 · cases k<;>exact hkk
theorem oneStep_eq {k:K} {σ2:St} {ok:Option K} {c2:Cal} (ht:σ.txns.getD s none=some t) (hc:σ.calls.getD s none=some c) (hk:c.k=some k) (e:(σ.setC s {c with waits:=false}).run s k=(σ2,ok)) (hc2:σ2.calls.getD s none=some c2)
 (hh:okK (σ.setC s {c with waits:=false}) s k=true∧okOthers σ σ2 s=true∧σ.count≤σ2.count∧σ2.count - σ.count<1000000∧σ2.looks<1000000000000000000∧σ.count<3000000000000000000):oneStep σ s=afterStep σ s σ2 ok c2:=by
 unfold oneStep;rw[ht,hc];simp only
 split
 · rename_i k' hk'
   rw[hk] at hk';obtain rfl:=Option.some.inj hk';rw[e];simp only;rw[hc2];simp only;rw[if_pos hh]
 · rename_i h
   rw[hk] at h
   cases h
theorem WF.step (h:WF N L n σ) (hs:s<8) {c:Cal} (hc:σ.calls.getD s none=some c) (hct:σ.count<2999999999999999999) (hlk:σ.looks<999999999999999999) (hn:n<999970):
 ∃ σ' kd r,oneStep σ s=some (σ',kd,r)∧WF N L (n+3) σ'∧σ.count≤σ'.count∧σ'.count≤σ.count+1∧σ.looks≤σ'.looks∧σ'.looks≤σ.looks+1∧σ'.seq=σ.seq∧σ'.made=σ.made∧1≤kd∧kd≤3
  ∧(kd=3∨∃ c',σ'.calls.getD s none=some c'∧c'.waits=decide (kd=2))∧(kd=3→σ'.calls.getD s none=none∧(r.over=0↔(σ'.txns.getD s none).isSome=true)∧(r.over=0∨r.over=3∨r.over=4))∧(kd≠3→r={})
  ∧(∀ q,q≠s→σ'.txns.getD q none=σ.txns.getD q none∧σ'.calls.getD q none=σ.calls.getD q none)∧((σ'.txns.getD s none).isSome=true∨kd=3)∧(∀ u u2,σ.txns.getD s none=some u→σ'.txns.getD s none=some u2→u2.id=u.id):=by
 obtain⟨t,k,hk,ht,m,ho,hr,hkk⟩:=h.mid hs hc;have hokk:=okK_of m (show σ.count<_ by omega) (by omega) hkk;obtain⟨d,hd,hran⟩:=run_ran m ho hr rfl hkk
 cases e:(σ.setC s {c with waits:=false}).run s k with
 |mk σ2 ok=>
 rw[e] at hran;have hrest:∀ t2 c2,Mid N L (n+2) s d (σ.setC s {c with waits:=false}) σ2 t2 c2→okK (σ.setC s {c with waits:=false}) s k=true∧okOthers σ σ2 s=true∧σ.count≤σ2.count∧σ2.count - σ.count<1000000∧σ2.looks<1000000000000000000∧σ.count<3000000000000000000:=by
  intro t2 c2 m2;have e1:σ2.count=σ.count+d:=m2.ct;have e2:σ2.looks=σ.looks:=m2.lk;refine⟨hokk,others_of h.sh.c8 m2.sh.c8 (fun q hq=>?_),by omega,by omega,by omega,by omega⟩;rw[m2.oc q hq];show (σ.calls.set s _).getD q none=_;rw[getD_setO _ _ _ _ (by rw[h.sh.c8];exact hs),if_neg hq]
 have hoc:∀ t2 c2,Mid N L (n+2) s d (σ.setC s {c with waits:=false}) σ2 t2 c2→∀ q,q≠s→σ2.txns.getD q none=σ.txns.getD q none∧σ2.calls.getD q none=σ.calls.getD q none:=by
  intro t2 c2 m2 q hq;refine⟨m2.ox q hq,?_⟩;rw[m2.oc q hq];show (σ.calls.set s _).getD q none=_;rw[getD_setO _ _ _ _ (by rw[h.sh.c8];exact hs),if_neg hq]
 have hT:∀ t2 c2,Mid N L (n+2) s d (σ.setC s {c with waits:=false}) σ2 t2 c2→∀ q u,σ2.txns.getD q none=some u→TX N L (n+3) u:=by
  intro t2 c2 m2 q u hu
  by_cases hq:q=s
  · subst hq
    rw[m2.tx] at hu;obtain rfl:=Option.some.inj hu;exact m2.t1.mono (by omega)
  · rw[m2.ox q hq] at hu
    exact (h.tx q u hu).mono (by omega)
 have hTi:∀ t2 c2,Mid N L (n+2) s d (σ.setC s {c with waits:=false}) σ2 t2 c2→∀ q u,σ2.txns.getD q none=some u→u.id≤σ2.made:=by
  intro t2 c2 m2 q u hu;rw[m2.md]
  by_cases hq:q=s
  · subst hq
    rw[m2.tx] at hu;obtain rfl:=Option.some.inj hu;rw[m2.tq,←m.tq];exact h.ti q t ht
  · rw[m2.ox q hq] at hu
    exact h.ti q u hu
 have hC:∀ t2 c2,Mid N L (n+2) s d (σ.setC s {c with waits:=false}) σ2 t2 c2→∀ q u,q≠s→σ2.calls.getD q none=some u→∃ v,σ2.txns.getD q none=some v∧CX N L v u:=by
  intro t2 c2 m2 q u hq hu;rw[(hoc t2 c2 m2 q hq).2] at hu;obtain⟨v,hv,hx⟩:=h.cx q u hu;exact⟨v,by rw[(hoc t2 c2 m2 q hq).1];exact hv,hx⟩
 have hS:∀ t2 c2,Mid N L (n+2) s d (σ.setC s {c with waits:=false}) σ2 t2 c2→∀ {σ3:St},σ3.sw=σ2.sw→σ3.low=σ2.low→σ3.cut=σ2.cut→σ3.cuts=σ2.cuts→σ3.seq=σ2.seq→SX N L (n+3) σ3:=by
  intro t2 c2 m2 σ3 e1 e2 e3 e4 e5;obtain⟨f1,f2,f3,f4⟩:=m2.sp;exact h.sx.same (e1.trans f1) (e2.trans f2) (e3.trans f3) (e4.trans f4) (by rw[e5,m2.sq];exact Nat.le_refl _) (by omega)
 have hid:∀ t2 c2,Mid N L (n+2) s d (σ.setC s {c with waits:=false}) σ2 t2 c2→∀ u u2,σ.txns.getD s none=some u→σ2.txns.getD s none=some u2→u2.id=u.id:=by
  intro t2 c2 m2 u u2 hu hu2;rw[m2.tx] at hu2;obtain rfl:=Option.some.inj hu2;rw[ht] at hu;obtain rfl:=Option.some.inj hu;rw[m2.tq,←m.tq]
 cases ok with
 |some k'=>
  obtain⟨t2,c2,m2,h1,h2,h3⟩:=hran;simp only at m2;have e1:σ2.count=σ.count+d:=m2.ct;have e2:σ2.looks=σ.looks:=m2.lk;have hl8:s<σ2.calls.length:=by rw[m2.sh.c8];exact hs
  rw[oneStep_eq ht hc hk e m2.ca (hrest t2 c2 m2)];unfold afterStep;simp only;rw[if_pos h1];refine⟨_,_,_,rfl,⟨?_,?_,?_,?_,?_⟩,?_,?_,?_,?_,?_,?_,?_,?_,?_,?_,?_,?_,?_,?_⟩
  · exact ((m2.sh.setC s {c2 with k:=some k'}).mono (by omega)).same rfl rfl rfl rfl rfl (by show (σ2.txns).length=8;exact m2.sh.t8) (by show (σ2.calls.set s _).length=8;rw[List.length_set];exact m2.sh.c8) rfl rfl rfl rfl rfl
  · exact hS t2 c2 m2 rfl rfl rfl rfl rfl
  · exact hT t2 c2 m2
  · exact hTi t2 c2 m2
  · intro q u hu
    change (σ2.calls.set s _).getD q none=some u at hu;rw[getD_setO _ _ _ _ hl8] at hu
    split at hu
    · rename_i hq
      subst hq;obtain rfl:=Option.some.inj hu;exact⟨t2,m2.tx,m2.op,h1,h2,k',rfl,by cases k'<;>exact h3⟩
    · rename_i hq
      exact hC t2 c2 m2 q u hq hu
  · show σ.count≤σ2.count;omega
  · show σ2.count≤σ.count+1;omega
  · show σ.looks≤σ2.looks+(σ2.count - σ.count);omega
  · show σ2.looks+(σ2.count - σ.count)≤σ.looks+1;omega
  · exact m2.sq
  · exact m2.md
  · cases c2.waits<;>simp
  · cases c2.waits<;>simp
  · right
    refine⟨{c2 with k:=some k'},?_,?_⟩
    · show (σ2.calls.set s _).getD s none=_
      rw[getD_setO _ _ _ _ hl8,if_pos rfl]
    · show c2.waits=_
      cases c2.waits<;>simp
  · intro h3;cases hw:c2.waits<;>simp[hw] at h3
  · intro _;rfl
  · intro q hq
    refine⟨(hoc t2 c2 m2 q hq).1,?_⟩;show (σ2.calls.set s _).getD q none=_;rw[getD_setO _ _ _ _ hl8,if_neg hq];exact (hoc t2 c2 m2 q hq).2
  · left
    show (σ2.txns.getD s none).isSome=true;rw[m2.tx];rfl
  · exact hid t2 c2 m2
 |none=>
  obtain⟨t2,c2,m2,h1,h2,h3⟩:=hran;simp only at m2;have e1:σ2.count=σ.count+d:=m2.ct;have e2:σ2.looks=σ.looks:=m2.lk;have hl8:s<σ2.calls.length:=by rw[m2.sh.c8];exact hs
  have ht8:s<σ2.txns.length:=by rw[m2.sh.t8];exact hs
  have htl:=m2.sh.tl;rw[oneStep_eq ht hc hk e m2.ca (hrest t2 c2 m2)];unfold afterStep;simp only;have hp:c2.r.pairs.length≤1000000:=by
   rcases h3 with h3|h3
   · have:=h3.2;omega
   · rw[h3.2];simp
  rw[if_pos ⟨h2,h1,hp⟩];have hcset:∀ x q,((σ2.calls.set s x).set s none).getD q none=if q=s then none else σ2.calls.getD q none:=by
   intro x q;rw[List.set_set,getD_setO _ _ _ _ hl8]
  rcases h3 with ⟨h3,h4⟩|⟨h3,h4⟩
  · rw[if_pos h3,m2.tx]
    simp only;rw[if_pos (by omega)];refine⟨_,_,_,rfl,⟨?_,?_,?_,?_,?_⟩,?_,?_,?_,?_,?_,?_,?_,?_,?_,?_,?_,?_,?_,?_⟩
    · refine Sh.event (n:=n+2) ?_ _ h4
      exact (m2.sh.setC s {c2 with k:=none}).same rfl rfl rfl rfl rfl (by show (σ2.txns).length=8;exact m2.sh.t8) (by show ((σ2.calls.set s _).set s none).length=8;rw[List.length_set,List.length_set];exact m2.sh.c8) rfl rfl rfl rfl rfl
    · exact hS t2 c2 m2 rfl rfl rfl rfl rfl
    · exact hT t2 c2 m2
    · exact hTi t2 c2 m2
    · intro q u hu
      change ((σ2.calls.set s _).set s none).getD q none=some u at hu;rw[hcset] at hu
      split at hu
      · cases hu
      · rename_i hq
        exact hC t2 c2 m2 q u hq hu
    · show σ.count≤σ2.count;omega
    · show σ2.count≤σ.count+1;omega
    · show σ.looks≤σ2.looks+(σ2.count - σ.count);omega
    · show σ2.looks+(σ2.count - σ.count)≤σ.looks+1;omega
    · exact m2.sq
    · exact m2.md
    · omega
    · omega
    · exact .inl rfl
    · intro _
      refine⟨?_,?_⟩
      · show ((σ2.calls.set s _).set s none).getD s none=none
        rw[hcset,if_pos rfl]
      · refine⟨⟨fun _=>?_,fun _=>h3⟩,.inl h3⟩
        show (σ2.txns.getD s none).isSome=true;rw[m2.tx];rfl
    · intro e;exact absurd rfl e
    · intro q hq
      refine⟨(hoc t2 c2 m2 q hq).1,?_⟩;show ((σ2.calls.set s _).set s none).getD q none=_;rw[hcset,if_neg hq];exact (hoc t2 c2 m2 q hq).2
    · exact .inr rfl
    · exact hid t2 c2 m2
  · have h3':c2.r.over≠0:=by omega
    rw[if_neg h3',if_pos h4];refine⟨_,_,_,rfl,⟨?_,?_,?_,?_,?_⟩,?_,?_,?_,?_,?_,?_,?_,?_,?_,?_,?_,?_,?_,?_⟩
    · exact ((m2.sh.setC s {c2 with k:=none}).mono (by omega)).same rfl rfl rfl rfl rfl (by show (σ2.txns.set s none).length=8;rw[List.length_set];exact m2.sh.t8) (by show ((σ2.calls.set s _).set s none).length=8;rw[List.length_set,List.length_set];exact m2.sh.c8) rfl rfl rfl rfl rfl
    · exact hS t2 c2 m2 rfl rfl rfl rfl rfl
    · intro q u hu
      change (σ2.txns.set s none).getD q none=some u at hu;rw[getD_setO _ _ _ _ ht8] at hu
      split at hu
      · cases hu
      · exact hT t2 c2 m2 q u hu
    · intro q u hu
      change (σ2.txns.set s none).getD q none=some u at hu;rw[getD_setO _ _ _ _ ht8] at hu
      split at hu
      · cases hu
      · exact hTi t2 c2 m2 q u hu
    · intro q u hu
      change ((σ2.calls.set s _).set s none).getD q none=some u at hu;rw[hcset] at hu
      split at hu
      · cases hu
      · rename_i hq
        obtain⟨v,hv,hx⟩:=hC t2 c2 m2 q u hq hu;refine⟨v,?_,hx⟩;show (σ2.txns.set s none).getD q none=some v;rw[getD_setO _ _ _ _ ht8,if_neg hq];exact hv
    · show σ.count≤σ2.count;omega
    · show σ2.count≤σ.count+1;omega
    · show σ.looks≤σ2.looks+(σ2.count - σ.count);omega
    · show σ2.looks+(σ2.count - σ.count)≤σ.looks+1;omega
    · exact m2.sq
    · exact m2.md
    · omega
    · omega
    · exact .inl rfl
    · intro _
      refine⟨?_,?_⟩
      · show ((σ2.calls.set s _).set s none).getD s none=none
        rw[hcset,if_pos rfl]
      · refine⟨⟨fun e=>absurd e h3',fun e=>?_⟩,.inr h3⟩
        change ((σ2.txns.set s none).getD s none).isSome=true at e;rw[getD_setO _ _ _ _ ht8,if_pos rfl] at e
        cases e
    · intro e;exact absurd rfl e
    · intro q hq
      refine⟨?_,?_⟩
      · show (σ2.txns.set s none).getD q none=_
        rw[getD_setO _ _ _ _ ht8,if_neg hq];exact (hoc t2 c2 m2 q hq).1
      · show ((σ2.calls.set s _).set s none).getD q none=_
        rw[hcset,if_neg hq];exact (hoc t2 c2 m2 q hq).2
    · exact .inr rfl
    · intro u u2 hu hu2
      change (σ2.txns.set s none).getD s none=some u2 at hu2;rw[getD_setO _ _ _ _ ht8,if_pos rfl] at hu2
      cases hu2
end
section
variable {N L n s d:Nat} {σ τ:St} {t:Txn} {c:Cal}
theorem opOk_key {o:En.Op} (h:opOk o=true):o.key<64∧o.hi≤63∧1≤o.kind∧o.kind≤7:=by
 obtain⟨k,key,hi,v⟩:=o;unfold opOk at h;simp only at h
 split at h
 all_goals (try (simp only[Bool.and_eq_true,decide_eq_true_eq,beq_iff_eq] at h))
 all_goals (try (simp only;omega))
 cases h
theorem first_out (m:Mid N L n s d σ τ t c) (ho:c.over=false) (hr:c.r={}):Out N L n s d σ (τ.first s):=by
 obtain⟨hk,hh,hk1,hk7⟩:=opOk_key m.op;have hro:c.r.over=0:=by rw[hr]
 unfold St.first;rw[m.ec,m.et];simp only
 split
 · split
   · split
     · exact⟨t,c,m,ho,hro,rfl,Nat.zero_le _⟩
     · exact⟨t,c,m,ho,hro,rfl,Nat.zero_le _⟩
   · exact⟨t,c,m,ho,hro,hk,trivial⟩
 · unfold St.scan
   exact scan_out (key:=0) _ _ _ c m ho hro hh (by omega) (by rw[hr];simp)
 · exact⟨t,c,m,ho,hro,trivial⟩
 · exact⟨t,c,m,ho,hro,trivial⟩
 · split
   · rename_i x hx
     split
     · exact⟨t,c,m,ho,hro,rfl,Nat.zero_le _⟩
     split
     · exact⟨t,c,m,ho,hro,rfl,Nat.zero_le _⟩
     split
     · exact slot_out m ho hro (.inl rfl) hk (by simp only[if_true];rw[hx];rfl)
     · rename_i h0
       refine⟨t,c,m,ho,hro,?_,?_,x,hx,(m.t1.cell hx).1.of h0⟩
       · show (if c.op.kind=4 then mine t else ever)<_
         split
         · exact mine_lt m.t1
         · decide
       · show Wd (if c.op.kind=4 then mine t else ever)
         split
         · exact Wd_mine m.t1
         · exact Wd_ever
   · rename_i hx
     exact⟨t,c,m,ho,hro,hk,rfl,hx⟩
theorem okFirst_of (m:Mid N L n s d σ τ t c) (hr:c.r={}) (hn:n<999980):okFirst τ s=true:=by
 obtain⟨hk,hh,hk1,hk7⟩:=opOk_key m.op;have h1:=m.t1.i1;have h2:=m.t1.i2;have hw:okFirst.okWrite τ s=true:=by
  unfold okFirst.okWrite;rw[m.et,m.ec]
  split
  · rfl
  · simp only[Bool.and_eq_true,decide_eq_true_eq]
    exact⟨⟨h1,by omega⟩,okPool_of m.sh (by omega)⟩
 unfold okFirst;rw[m.ec,m.et]
 split
 · rfl
 · rfl
 · split
   · rfl
   · rename_i x hx
     cases e:x.there with
     |false=>rfl
     |true=>simp[vl_of ((m.t1.cell hx).2.2 e) m.sh.sl]
 · simp only[Bool.and_eq_true,decide_eq_true_eq]
   exact⟨⟨⟨by omega,hh⟩,okCels_of m.t1 m.sh.sl⟩,by rw[hr];simp⟩
 · exact hw
 · exact hw
 · exact hw
 · exfalso
   have h9:c.op.kind=1∨c.op.kind=2∨c.op.kind=3∨c.op.kind=4∨c.op.kind=5∨c.op.kind=6∨c.op.kind=7:=by omega
   rcases h9 with e|e|e|e|e|e|e<;>exact absurd e (by assumption)
def issueT (o:En.Op) (t:Txn):Txn:=if opEnds o then t else {t with ops:=t.ops+1}
theorem WF.imid (h:WF N L n σ) (hs:s<8) {t:Txn} (ht:σ.txns.getD s none=some t) (o:En.Op) (ho:opOk o=true) (hop:t.ops<12∨opEnds o=true):Mid N L n s 0 (issueSt σ s o t) (issueSt σ s o t) (issueT o t) (callOf o (σ.seq+1)):=by
 have hT:=h.tx s t ht;have h8:s<σ.calls.length:=by rw[h.sh.c8];exact hs
 have h8':s<σ.txns.length:=by rw[h.sh.t8];exact hs
 unfold issueSt issueT
 cases he:opEnds o with
 |true=>
  simp only[if_true];refine⟨hs,?_,ht,?_,hT,ho,fun _ _=>rfl,fun _ _=>rfl,rfl,rfl,rfl,rfl,⟨rfl,rfl,rfl,rfl⟩,?_,?_⟩
  · exact (h.sh.setC s (callOf o (σ.seq+1))).same rfl rfl rfl rfl rfl h.sh.t8 (by show (σ.calls.set s _).length=8;rw[List.length_set];exact h.sh.c8) rfl rfl rfl rfl rfl
  · show (σ.calls.set s _).getD s none=_
    rw[getD_setO _ _ _ _ h8,if_pos rfl]
  · unfold St.c
    rw[show (({σ with seq:=σ.seq+1}:St).setC s (callOf o (σ.seq+1))).calls.getD s none=_ from getD_setO _ _ _ _ h8,if_pos rfl];exact⟨rfl,rfl⟩
  · show t.id=((σ.txns.getD s none).getD default).id
    rw[ht];rfl
 |false=>
  simp only[Bool.false_eq_true,if_false];have h12:t.ops<12:=hop.resolve_right (by rw[he];simp);have hT2:TX N L n {t with ops:=t.ops+1}:=⟨hT.i1,hT.i2,h12,hT.bg,hT.en,hT.ce,hT.ky,hT.kn,hT.rd,hT.rn,hT.bd,hT.bn⟩
  refine⟨hs,?_,?_,?_,hT2,ho,fun _ _=>rfl,fun _ _=>rfl,rfl,rfl,rfl,rfl,⟨rfl,rfl,rfl,rfl⟩,?_,?_⟩
  · exact ((h.sh.setT s {t with ops:=t.ops+1}).setC s (callOf o (σ.seq+1))).same rfl rfl rfl rfl rfl (by show (σ.txns.set s _).length=8;rw[List.length_set];exact h.sh.t8) (by show (σ.calls.set s _).length=8;rw[List.length_set];exact h.sh.c8) rfl rfl rfl rfl rfl
  · show (σ.txns.set s _).getD s none=_
    rw[getD_setO _ _ _ _ h8',if_pos rfl]
  · show (σ.calls.set s _).getD s none=_
    rw[getD_setO _ _ _ _ h8,if_pos rfl]
  · unfold St.c
    rw[show (({(σ.setT s {t with ops:=t.ops+1}) with seq:=σ.seq+1}:St).setC s (callOf o (σ.seq+1))).calls.getD s none=_ from getD_setO _ _ _ _ h8,if_pos rfl];exact⟨rfl,rfl⟩
  · show t.id=(((σ.txns.set s (some {t with ops:=t.ops+1})).getD s none).getD default).id
    rw[getD_setO _ _ _ _ h8',if_pos rfl];rfl
theorem issueSt_f (σ:St) (s:Nat) (o:En.Op) (t:Txn):(issueSt σ s o t).count=σ.count∧(issueSt σ s o t).looks=σ.looks∧(issueSt σ s o t).seq=σ.seq+1∧(issueSt σ s o t).made=σ.made∧(issueSt σ s o t).sw=σ.sw∧(issueSt σ s o t).low=σ.low∧(issueSt σ s o t).cut=σ.cut∧(issueSt σ s o t).cuts=σ.cuts∧(issueSt σ s o t).tale=σ.tale∧(issueSt σ s o t).words=σ.words:=by
 unfold issueSt;split<;>exact⟨rfl,rfl,rfl,rfl,rfl,rfl,rfl,rfl,rfl,rfl⟩
theorem issueSt_o (σ:St) (s:Nat) (o:En.Op) (t:Txn) (hs:s<σ.calls.length) (hs2:s<σ.txns.length) (q:Nat) (hq:q≠s):(issueSt σ s o t).txns.getD q none=σ.txns.getD q none∧(issueSt σ s o t).calls.getD q none=σ.calls.getD q none:=by
 unfold issueSt
 split
 · refine⟨rfl,?_⟩
   show (σ.calls.set s _).getD q none=_;rw[getD_setO _ _ _ _ hs,if_neg hq]
 · refine⟨?_,?_⟩
   · show (σ.txns.set s _).getD q none=_
     rw[getD_setO _ _ _ _ hs2,if_neg hq]
   · show (σ.calls.set s _).getD q none=_
     rw[getD_setO _ _ _ _ hs,if_neg hq]
theorem WF.issue (h:WF N L n σ) (hs:s<8) {t:Txn} (ht:σ.txns.getD s none=some t) (hc:σ.calls.getD s none=none) {o:En.Op} (ho:opOk o=true) (hop:t.ops<12∨opEnds o=true) (hsq:σ.seq<3999999999999999999) (hn:n<999970):
 ∃ σ1,issueOk σ s o=some σ1∧WF N L n σ1∧σ1.count=σ.count∧σ1.looks=σ.looks∧σ1.seq=σ.seq+1∧σ1.made=σ.made∧(∃ c,σ1.calls.getD s none=some c∧c.op=o)∧(σ1.txns.getD s none).isSome=true
  ∧(∀ q,q≠s→σ1.txns.getD q none=σ.txns.getD q none∧σ1.calls.getD q none=σ.calls.getD q none)∧(∀ u,σ1.txns.getD s none=some u→u.id=t.id):=by
 have m:=h.imid hs ht o ho hop;obtain⟨f1,f2,f3,f4,f5,f6,f7,f8,f9,f10⟩:=issueSt_f σ s o t;have fo:=issueSt_o σ s o t (by rw[h.sh.c8];exact hs) (by rw[h.sh.t8];exact hs);have hf:=okFirst_of m rfl (by omega);have hout:=first_out m rfl rfl;have hops:=(h.tx s t ht).op;unfold issueOk;rw[ht];simp only;rw[if_pos ⟨ho,by rw[hc];rfl,hop.imp id (fun e=>⟨e,by omega⟩),by omega,by rw[h.sh.c8];exact hs,by rw[h.sh.t8];exact hs,hf⟩]
 cases e:(issueSt σ s o t).first s with
 |mk σ4 k=>
 rw[e] at hout;obtain⟨t2,c2,m2,h1,h2,h3⟩:=hout;simp only at m2 h3 ⊢;rw[m2.ca];simp only;have hoc:∀ q,q≠s→σ4.txns.getD q none=σ.txns.getD q none∧σ4.calls.getD q none=σ.calls.getD q none:=fun q hq=>⟨(m2.ox q hq).trans (fo q hq).1,(m2.oc q hq).trans (fo q hq).2⟩
 rw[if_pos (others_of h.sh.c8 m2.sh.c8 (fun q hq=>(hoc q hq).2))];obtain⟨g1,g2,g3,g4⟩:=m2.sp;have hl8:s<σ4.calls.length:=by rw[m2.sh.c8];exact hs
 refine⟨_,rfl,⟨m2.sh.setC s _,?_,?_,?_,?_⟩,?_,?_,?_,?_,?_,?_,?_,?_⟩
 · exact h.sx.same (g1.trans f5) (g2.trans f6) (g3.trans f7) (g4.trans f8) (by show σ.seq≤σ4.seq;rw[m2.sq,f3];omega) (Nat.le_refl _)
 · intro q u hu
   change σ4.txns.getD q none=some u at hu
   by_cases hq:q=s
   · subst hq
     rw[m2.tx] at hu;obtain rfl:=Option.some.inj hu;exact m2.t1
   · rw[(hoc q hq).1] at hu
     exact h.tx q u hu
 · intro q u hu
   change σ4.txns.getD q none=some u at hu;show u.id≤σ4.made;rw[m2.md,f4]
   by_cases hq:q=s
   · subst hq
     rw[m2.tx] at hu;obtain rfl:=Option.some.inj hu;rw[m2.tq,←m.tq];have:=h.ti q t ht;unfold issueT
     split<;>exact this
   · rw[(hoc q hq).1] at hu
     exact h.ti q u hu
 · intro q u hu
   change (σ4.calls.set s _).getD q none=some u at hu;rw[getD_setO _ _ _ _ hl8] at hu
   split at hu
   · rename_i hq
     subst hq;obtain rfl:=Option.some.inj hu;exact⟨t2,m2.tx,m2.op,h1,h2,k,rfl,by cases k<;>exact h3⟩
   · rename_i hq
     rw[(hoc q hq).2] at hu;obtain⟨v,hv,hx⟩:=h.cx q u hu;exact⟨v,by show σ4.txns.getD q none=_;rw[(hoc q hq).1];exact hv,hx⟩
 · show σ4.count=_;have:=m2.ct;omega
 · show σ4.looks=_;rw[m2.lk,f2]
 · show σ4.seq=_;rw[m2.sq,f3]
 · show σ4.made=_;rw[m2.md,f4]
 · refine⟨{c2 with k:=some k},?_,?_⟩
   · show (σ4.calls.set s _).getD s none=_
     rw[getD_setO _ _ _ _ hl8,if_pos rfl]
   · show c2.op=o
     rw[m2.oq.1,m.ec];rfl
 · show (σ4.txns.getD s none).isSome=true
   rw[m2.tx];rfl
 · intro q hq
   refine⟨(hoc q hq).1,?_⟩;show (σ4.calls.set s _).getD q none=_;rw[getD_setO _ _ _ _ hl8,if_neg hq];exact (hoc q hq).2
 · intro u hu
   change σ4.txns.getD s none=some u at hu;rw[m2.tx] at hu;obtain rfl:=Option.some.inj hu;rw[m2.tq,←m.tq];unfold issueT
   split<;>rfl
end
section
variable {N L n s d:Nat} {σ τ:St} {t:Txn} {c:Cal}
theorem WF.new {N L:Nat} (h1:N≤256) (h2:L≤1099511627776):WF N L 0 (new N L):=by
 have e0:∀ (α:Type) (q:Nat),(List.replicate 8 (none:Option α)).getD q none=none:=fun α q=>by
  rw[List.getD_eq_getElem?_getD,List.getElem?_replicate];split<;>rfl
 refine⟨⟨rfl,rfl,h1,h2,?_,?_,?_,rfl,rfl,Nat.zero_le _,fun i=>?_,⟨fun i hi=>(by cases hi),List.nodup_nil,fun i=>?_,fun _=>⟨rfl,fun i=>?_⟩,fun _=>⟨rfl,?_⟩,fun e=>(by cases e)⟩,Nat.le_refl _,Nat.le_refl _,fun e he=>(by cases he)⟩,⟨fun x hx=>(by cases hx),Nat.zero_le _,fun p hp=>(by cases hp),Nat.le_refl _,Nat.le_refl _⟩,fun s t ht=>?_,fun s t ht=>?_,fun s c hc=>?_⟩
 · show (List.replicate (73+N*3+2000+1) 0).length=_;rw[List.length_replicate]
 · show (List.replicate N (0,false)).length=N;rw[List.length_replicate]
 · show (List.replicate N (0,0)).length=N;rw[List.length_replicate]
 · have:(En.new N L).word i=0:=by
    show (List.replicate (73+N*3+2000+1) 0).getD i 0=0;rw[List.getD_eq_getElem?_getD,List.getElem?_replicate];split<;>rfl
   rw[this];exact WOk.zero N L i
 · show ((List.replicate N (0,false)).getD i (0,false)).1≤65535
   rw[List.getD_eq_getElem?_getD,List.getElem?_replicate];split<;>simp
 · show ((List.replicate N (0,false)).getD i (0,false)).2=false
   rw[List.getD_eq_getElem?_getD,List.getElem?_replicate];split<;>rfl
 · show (List.replicate N (0,false)).countP (·.2)=0
   rw[List.countP_replicate];rfl
 · exact absurd ht (by rw[show (En.new N L).txns.getD s none=none from e0 _ s];simp)
 · exact absurd ht (by rw[show (En.new N L).txns.getD s none=none from e0 _ s];simp)
 · exact absurd hc (by rw[show (En.new N L).calls.getD s none=none from e0 _ s];simp)
theorem Sh.made (h:Sh N L n σ) (h2:σ.made<2000):Sh N L n {σ with made:=σ.made+1}:=
 ⟨h.sl,h.lm,h.n1,h.l1,h.nw,h.nt,h.nv,h.t8,h.c8,h2,h.wd,⟨h.pool.fr,h.pool.nd,h.pool.tg,h.pool.ls,h.pool.w0,h.pool.sm⟩,h.wn,h.tl,h.tp⟩
theorem begin_sh (h:Sh N L n σ) (hs:s<8) {σ2:St} (h2:Sh N L n σ2) (hm:σ2.made=σ.made) (hmd:σ.made<2000) (hlim:timeOf (σ.word 0)<L) (level:Nat):Sh N L (n+1) (beginSt σ s level σ2):=by
 have hm2:Sh N L n {σ2 with made:=σ.made+1}:=by
  have:=h2.made (by rw[hm];exact hmd);rw[hm] at this;exact this
 unfold beginSt;refine Sh.event ?_ _;refine Sh.setT ?_ s _;refine Sh.put ?_ (live_ok hs (by omega) h.l1);refine Sh.put ?_ ?_
 · exact hm2.cas (clock_ok (by omega) h.l1 (by omega))
 · rw[h.place]
   exact place_ok (pack_lt (by omega) (by omega))
theorem txnOf_ok {id level bg:Nat} (h1:1≤id) (h2:id≤2000) (h3:bg≤L):TX N L n (txnOf id level bg):=
 ⟨h1,h2,Nat.zero_le _,h3,Nat.zero_le _,fun p hp=>(by cases hp),fun k hk=>(by cases hk),Nat.zero_le _,fun r hr=>(by cases hr),Nat.zero_le _,fun b hb=>(by cases hb),Nat.zero_le _⟩
theorem beginSt_f (σ:St) (s level:Nat) (σ2:St):(beginSt σ s level σ2).looks=σ2.looks∧(beginSt σ s level σ2).seq=σ2.seq∧(beginSt σ s level σ2).made=σ.made+1∧(beginSt σ s level σ2).sw=σ2.sw∧(beginSt σ s level σ2).low=σ2.low∧(beginSt σ s level σ2).cut=σ2.cut∧(beginSt σ s level σ2).cuts=σ2.cuts∧(beginSt σ s level σ2).calls=σ2.calls∧(beginSt σ s level σ2).txns=σ2.txns.set s (some (txnOf (σ.made+1) level (timeOf (σ.word 0)+1)))∧(beginSt σ s level σ2).count=σ2.count+3:=by
 have e:∀ (τ:St) (i o v:Nat),(τ.cas i o v).looks=τ.looks∧(τ.cas i o v).seq=τ.seq∧(τ.cas i o v).made=τ.made∧(τ.cas i o v).sw=τ.sw∧(τ.cas i o v).low=τ.low∧(τ.cas i o v).cut=τ.cut∧(τ.cas i o v).cuts=τ.cuts∧(τ.cas i o v).calls=τ.calls∧(τ.cas i o v).txns=τ.txns∧(τ.cas i o v).count=τ.count+1:=by
  intro τ i o v;unfold St.cas;split<;>exact⟨rfl,rfl,rfl,rfl,rfl,rfl,rfl,rfl,rfl,rfl⟩
 obtain⟨e1,e2,e3,e4,e5,e6,e7,e8,e9,e10⟩:=e ({σ2 with made:=σ.made+1}:St) 0 (σ.word 0) (clockW (timeOf (σ.word 0)+1) 0);unfold beginSt;refine⟨e1,e2,e3,e4,e5,e6,e7,e8,?_,?_⟩
 · show (St.txns _).set s _=_
   show (({σ2 with made:=σ.made+1}:St).cas 0 (σ.word 0) (clockW (timeOf (σ.word 0)+1) 0)).txns.set s _=_;rw[e9]
 · show (({σ2 with made:=σ.made+1}:St).cas 0 (σ.word 0) (clockW (timeOf (σ.word 0)+1) 0)).count+1+1=_
   rw[e10]
theorem help_f (σ:St) (w:Nat):(σ.help w).looks=σ.looks∧(σ.help w).seq=σ.seq∧(σ.help w).made=σ.made∧(σ.help w).sw=σ.sw∧(σ.help w).low=σ.low∧(σ.help w).cut=σ.cut∧(σ.help w).cuts=σ.cuts∧(σ.help w).calls=σ.calls∧(σ.help w).txns=σ.txns∧(σ.help w).count=σ.count+1:=by
 unfold St.help St.cas;split<;>exact⟨rfl,rfl,rfl,rfl,rfl,rfl,rfl,rfl,rfl,rfl⟩
theorem Sh.help (h:Sh N L n σ) {w:Nat} (hw:timeOf w≤L):Sh N L n (σ.help w):=by
 unfold St.help;rw[h.place];exact h.cas (place_ok (pack_lt (by omega) (Nat.le_trans hw h.l1)))
theorem cas_word (σ:St) (i o v j:Nat):(σ.cas i o v).word j=if σ.word i=o∧j=i∧i<σ.words.length then v else σ.word j:=by
 unfold St.cas
 by_cases h:σ.word i=o
 · rw[if_pos h,put_word];simp[h]
 · rw[if_neg h];simp[h];rfl
theorem beginSt_word (h:Sh N L n σ) (hs:s<8) (level:Nat) {σ2:St} (h2:Sh N L n σ2) (hw:σ2.word 0=σ.word 0):(beginSt σ s level σ2).word 0=clockW (timeOf (σ.word 0)+1) 0:=by
 have hl:=h2.nw;unfold beginSt;show ((((({σ2 with made:=σ.made+1}:St).cas 0 (σ.word 0) (clockW (timeOf (σ.word 0)+1) 0)).put (σ.place (σ.made+1)) (pack 1 0)).put (1+s) (timeOf (σ.word 0)+1))).word 0=_;rw[put_word,if_neg (by omega),put_word,if_neg (by rw[h.place];omega),cas_word,if_pos ⟨hw,rfl,by show 0<σ2.words.length;omega⟩]
theorem help_word0 (h:Sh N L n σ) (w:Nat):(σ.help w).word 0=σ.word 0:=by
 unfold St.help;rw[cas_word,if_neg (by rw[h.place];omega)]
theorem WF.begin_ (h:WF N L n σ) (hs:s<8) (ht:σ.txns.getD s none=none) {level:Nat} (hl1:1≤level) (hl3:level≤3) (hmd:σ.made<2000) (hlim:timeOf (σ.word 0)<σ.limit) (hct:σ.count<2999999999999999999) (hn:n<999970):
 ∃ σ1,beginOk σ s level=some (σ1,σ.made+1)∧WF N L (n+1) σ1∧σ.count≤σ1.count∧σ1.count≤σ.count+5∧σ1.looks=σ.looks∧σ1.seq=σ.seq∧σ1.made=σ.made+1∧σ1.calls=σ.calls∧(σ1.txns.getD s none)=some (txnOf (σ.made+1) level (timeOf (σ.word 0)+1))
  ∧(∀ q,q≠s→σ1.txns.getD q none=σ.txns.getD q none)∧σ1.word 0=clockW (timeOf (σ.word 0)+1) 0:=by
 have hlim':timeOf (σ.word 0)<L:=by rw[←h.sh.lm];exact hlim
 have hl:=h.sh.l1;have hck:=(h.sh.wd 0).ck rfl;have hcn:σ.calls.getD s none=none:=by
  cases e:σ.calls.getD s none with
  |none=>rfl
  |some c=>
   obtain⟨t,ht2,-⟩:=h.cx s c e;rw[ht] at ht2;cases ht2
 have htl:=h.sh.tl;unfold beginOk;rw[if_pos ⟨hl1,hl3,by rw[ht];rfl,by rw[hcn];rfl,hmd,(h.sh.wd 0).u,by omega,hlim,by omega,by omega⟩];have key:∀ σ2:St,Sh N L n σ2→σ2.word 0=σ.word 0→σ2.looks=σ.looks→σ2.seq=σ.seq→σ2.made=σ.made→σ2.sw=σ.sw→σ2.low=σ.low→σ2.cut=σ.cut→σ2.cuts=σ.cuts→σ2.calls=σ.calls→σ2.txns=σ.txns→σ.count≤σ2.count→σ2.count≤σ.count+2→
  WF N L (n+1) (beginSt σ s level σ2)∧σ.count≤(beginSt σ s level σ2).count∧(beginSt σ s level σ2).count≤σ.count+5∧(beginSt σ s level σ2).looks=σ.looks∧(beginSt σ s level σ2).seq=σ.seq∧(beginSt σ s level σ2).made=σ.made+1∧(beginSt σ s level σ2).calls=σ.calls∧((beginSt σ s level σ2).txns.getD s none)=some (txnOf (σ.made+1) level (timeOf (σ.word 0)+1))
  ∧(∀ q,q≠s→(beginSt σ s level σ2).txns.getD q none=σ.txns.getD q none)∧(beginSt σ s level σ2).word 0=clockW (timeOf (σ.word 0)+1) 0:=by
  intro σ2 hS2 hw0 g1 g2 g3 g4 g5 g6 g7 g8 g9 g10 g11;obtain⟨f1,f2,f3,f4,f5,f6,f7,f8,f9,f10⟩:=beginSt_f σ s level σ2;have ht8:s<σ.txns.length:=by rw[h.sh.t8];exact hs
  have etx:∀ q,(beginSt σ s level σ2).txns.getD q none=if q=s then some (txnOf (σ.made+1) level (timeOf (σ.word 0)+1)) else σ.txns.getD q none:=by
   intro q;rw[f9,g9,getD_setO _ _ _ _ ht8]
  refine⟨⟨begin_sh h.sh hs hS2 g3 hmd hlim' level,?_,?_,?_,?_⟩,by omega,by omega,f1.trans g1,f2.trans g2,f3,f8.trans g8,by rw[etx,if_pos rfl],fun q hq=>by rw[etx,if_neg hq],beginSt_word h.sh hs level hS2 hw0⟩
  · exact h.sx.same (f4.trans g4) (f5.trans g5) (f6.trans g6) (f7.trans g7) (by rw[f2,g2];exact Nat.le_refl _) (by omega)
  · intro q u hu
    rw[etx] at hu
    split at hu
    · obtain rfl:=Option.some.inj hu
      exact txnOf_ok (by omega) (by omega) (by omega)
    · exact (h.tx q u hu).mono (by omega)
  · intro q u hu
    rw[etx] at hu;rw[f3]
    split at hu
    · obtain rfl:=Option.some.inj hu
      exact Nat.le_refl _
    · exact Nat.le_succ_of_le (h.ti q u hu)
  · intro q u hu
    rw[f8,g8] at hu;obtain⟨v,hv,hx⟩:=h.cx q u hu;refine⟨v,?_,hx⟩;rw[etx,if_neg (by rintro rfl;rw[hcn] at hu;cases hu)];exact hv
 split
 · obtain⟨k1,k2⟩:=key σ.tick h.sh.tick rfl rfl rfl rfl rfl rfl rfl rfl rfl rfl (by show σ.count≤σ.count+1;omega) (by show σ.count+1≤_;omega)
   exact⟨_,rfl,k1,k2⟩
 · rw[if_pos hck.2]
   obtain⟨e1,e2,e3,e4,e5,e6,e7,e8,e9,e10⟩:=help_f σ.tick (σ.word 0);have e10':(σ.tick.help (σ.word 0)).count=σ.count+1+1:=e10;obtain⟨k1,k2⟩:=key (σ.tick.help (σ.word 0)) (h.sh.tick.help hck.1) (help_word0 h.sh.tick _) e1 e2 e3 e4 e5 e6 e7 e8 e9 (by omega) (by omega);exact⟨_,rfl,k1,k2⟩
theorem WF.tick (h:WF N L n σ):WF N L n σ.tick:=⟨h.sh.tick,⟨h.sx.so,h.sx.lo,h.sx.cu,h.sx.cn,h.sx.cb⟩,h.tx,h.ti,h.cx⟩
theorem WF.mono {n':Nat} (h:WF N L n σ) (hn:n≤n'):WF N L n' σ:=⟨h.sh.mono hn,⟨h.sx.so,h.sx.lo,h.sx.cu,h.sx.cn,Nat.le_trans h.sx.cb hn⟩,fun s t ht=>(h.tx s t ht).mono hn,h.ti,h.cx⟩
end
end Go.Proofs.YtpkenfnmkpmapaaGreat.Em.Cw
