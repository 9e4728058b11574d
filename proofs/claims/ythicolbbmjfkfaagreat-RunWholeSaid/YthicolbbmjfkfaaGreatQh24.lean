import Derived.Test.YthicolbbmjfkfaaGreatQh23
set_option linter.unusedVariables false
set_option linter.unusedSimpArgs false
set_option maxRecDepth 100000
set_option maxHeartbeats 1600000
namespace Go.Proofs.YthicolbbmjfkfaaGreat.Em.Cw
open En
/- What holds a key's versions together:every chain ends,no slot stands twice in it. -/
def iY (D:St):Nat->List Nat->Prop
 |h,[]=>h=0
 |h,l::ls=>h=l∧l≠0∧iY D (D.word (af l 2)) ls
def Pl (N i:Nat):Prop:=(9<=i∧i<73)∨(73<=i∧i<73+N*3∧i % 3=0)
def Li (D:St) (L:Nat->List Nat):S->Prop
 |.visit E bZ F|.maker E bZ F _|.lM E bZ F _|.unlink E bZ F=>F∈L E∧(bZ≠0->bZ∈L E∧D.word (af bZ 2)=F)
 |.cut E bZ F next=>F∈L E∧(bZ≠0->bZ∈L E∧D.word (af bZ 2)=F)∧D.word (af F 2)=next
 |.on E F=>F∈L E
 |_=>True
structure CS (N:Nat) (D:St) (L:Nat->List Nat) (O:Nat->Nat):Prop where
 ch:∀ E,E<64->iY D (D.word (9+E)) (L E)
 nd:∀ E,E<64->((L E).map aj).Nodup
 lo:∀ E,E<64->∀ l∈L E,LK N l∧O (aj l)=E+1
 ct:∀ p∈D.cut,LK N p.1∧O (aj p.1)=200
 cn:(D.cut.map fun p=>aj p.1).Nodup
 fr:∀ i∈D.free,O i=0
 ul:D.listed=false->∀ i,O i=0
 sw:∀ x,D.sw=some x->QB N x->Li D L x
structure Qt (N:Nat) (D τ:St):Prop where
 w:∀ i,Pl N i->τ.word i=D.word i
 free:τ.free=D.free
 listed:τ.listed=D.listed
 cut:τ.cut=D.cut
 sw:τ.sw=D.sw
 aC:τ.aC=D.aC
section
variable {N:Nat} {D τ υ:St} {L:Nat->List Nat} {O:Nat->Nat}
theorem Pl.head {E:Nat} (h:E<64):Pl N (9+E):=.inl ⟨by omega,by omega⟩
theorem Pl.next {l:Nat} (h:LK N l):Pl N (af l 2):=by
 have:=h.aj;right;unfold af;omega
theorem iY.nQ {ls:List Nat} (hw:∀ l∈ls,τ.word (af l 2)=D.word (af l 2)):∀ {h:Nat},iY D h ls->iY τ h ls:=by
 induction ls with
 |nil=>intro h hc;exact hc
 |cons l ls ih=>
  intro h hc;refine⟨hc.1,hc.2.1,?_⟩;rw[hw l lJ];exact ih (fun l' hl'=>hw l' (pq _ hl')) hc.2.2
theorem Qt.refl (N:Nat) (D:St):Qt N D D:=⟨fun _ _=>rfl,rfl,rfl,rfl,rfl,rfl⟩
theorem Qt.trans (a:Qt N D τ) (b:Qt N τ υ):Qt N D υ:=⟨fun i h=>(b.w i h).trans (a.w i h),b.free.trans a.free,b.listed.trans a.listed,b.cut.trans a.cut,b.sw.trans a.sw,b.aC.trans a.aC⟩
theorem Li.nQ (hw:∀ E,E<64->∀ l∈L E,τ.word (af l 2)=D.word (af l 2)) {x:S} (hx:QB N x) (h:Li D L x):Li τ L x:=by
 cases x with
 |visit E bZ F=>exact⟨h.1,fun ha=>⟨(h.2 ha).1,(hw E (by have:=hx.1;omega) _ (h.2 ha).1).trans (h.2 ha).2⟩⟩
 |maker E bZ F id=>exact⟨h.1,fun ha=>⟨(h.2 ha).1,(hw E (by have:=hx.1;omega) _ (h.2 ha).1).trans (h.2 ha).2⟩⟩
 |lM E bZ F b=>exact⟨h.1,fun ha=>⟨(h.2 ha).1,(hw E (by have:=hx.1;omega) _ (h.2 ha).1).trans (h.2 ha).2⟩⟩
 |unlink E bZ F=>exact⟨h.1,fun ha=>⟨(h.2 ha).1,(hw E (by have:=hx.1;omega) _ (h.2 ha).1).trans (h.2 ha).2⟩⟩
 |cut E bZ F next=>exact⟨h.1,fun ha=>⟨(h.2.1 ha).1,(hw E (by have:=hx.1;omega) _ (h.2.1 ha).1).trans (h.2.1 ha).2⟩,(hw E (by have:=hx.1;omega) _ h.1).trans h.2.2⟩
 |on E F=>exact h
 |live s=>trivial
 |head E=>trivial
 |now=>trivial
theorem CS.quiet (h:CS N D L O) (q:Qt N D τ):CS N τ L O:=by
 have hw:∀ E,E<64->∀ l∈L E,τ.word (af l 2)=D.word (af l 2):=fun E V l hl=>q.w _ (Pl.next (h.lo E V l hl).1)
 refine⟨fun E V=>?_,h.nd,h.lo,?_,?_,?_,?_,?_⟩
 . rw[q.w _ (Pl.head V)]
   exact (h.ch E V).nQ (hw E V)
 . rw[q.cut];exact h.ct
 . rw[q.cut];exact h.cn
 . rw[q.free];exact h.fr
 . rw[q.listed];exact h.ul
 . intro x hx ho
   rw[q.sw] at hx;exact (h.sw x hx ho).nQ hw ho
theorem Qt.tick (D:St):Qt N D D.tick:=⟨fun _ _=>rfl,rfl,rfl,rfl,rfl,rfl⟩
theorem Qt.put {i v:Nat} (hi:¬ Pl N i):Qt N D (D.put i v):=by
 refine⟨fun j hj=>?_,rfl,rfl,rfl,rfl,rfl⟩;rw[eZ];have:¬ j=i:=by rintro rfl;exact hi hj
 rw[aX (fun e=>this e.1)]
theorem Qt.bP {i o v:Nat} (hi:¬ Pl N i):Qt N D (D.bP i o v):=by
 unfold St.bP
 split
 . exact Qt.put hi
 . exact Qt.tick D
theorem Qt.bq (D:St) (s:Nat) (t:bB):Qt N D (D.bq s t):=⟨fun _ _=>rfl,rfl,rfl,rfl,rfl,rfl⟩
theorem Qt.aF (D:St) (s:Nat) (c:dF):Qt N D (D.aF s c):=⟨fun _ _=>rfl,rfl,rfl,rfl,rfl,rfl⟩
theorem Qt.event (D:St) (e:Ev):Qt N D (D.event e):=⟨fun _ _=>rfl,rfl,rfl,rfl,rfl,rfl⟩
theorem Qt.vals (D:St) (v:List (Nat×Nat)):Qt N D {D with values:=v}:=⟨fun _ _=>rfl,rfl,rfl,rfl,rfl,rfl⟩
theorem Qt.bind (D:St) (s tq:Nat):Qt N D (D.bind s tq):=by
 unfold St.bind
 split
 . exact Qt.refl N D
 . exact (Qt.bq D s _).trans (Qt.event _ _)
theorem Qt.read (D:St) (s E F:Nat) (got:Bool):Qt N D (D.read s E F got):=Qt.bq D s _
theorem Qt.tell (D:St) (s E v:Nat):Qt N D (D.tell s E v):=Qt.aF D s _
theorem Qt.bW (D:St) (s:Nat) (e:Ev):Qt N D (D.bW s e):=by
 unfold St.bW
 split
 . exact Qt.refl N D
 . exact (Qt.bq D s _).trans (Qt.event _ _)
theorem Qt.finish (D:St) (s:Nat) (r:ic):Qt N D (D.finish s r):=Qt.aF D s _
theorem uR:¬ Pl N 0:=by unfold Pl;omega
theorem xD {s:Nat} (h:s<8):¬ Pl N (1+s):=by unfold Pl;omega
theorem nk {id:Nat}:¬ Pl N (73+N*3+id):=by unfold Pl;omega
theorem ji {l w:Nat} (hw:w<2):¬ Pl N (af l w):=by unfold Pl af;omega
theorem Qt.bT (hs:D.aC=N) (w:Nat):Qt N D (D.bT w):=by
 unfold St.bT;refine Qt.bP ?_;have:D.place (aT w)=73+N*3+aT w:=by unfold St.place;rw[hs]
 rw[this];exact nk
end
def Lj (O:Nat->Nat) (i v:Nat):Nat->Nat:=fun j=>if j=i then v else O j
def R9 (L:Nat->List Nat) (k:Nat) (v:List Nat):Nat->List Nat:=fun j=>if j=k then v else L j
theorem qK (O:Nat->Nat) (i v:Nat):Lj O i v i=v:=aV rfl
theorem mh {O:Nat->Nat} {i v j:Nat} (h:¬ j=i):Lj O i v j=O j:=aX h
theorem qL (L:Nat->List Nat) (k:Nat) (v:List Nat):R9 L k v k=v:=aV rfl
theorem yL {L:Nat->List Nat} {k:Nat} {v:List Nat} {j:Nat} (h:¬ j=k):R9 L k v j=L j:=aX h
theorem Hg:∀ (N:Nat) (l:List Nat),l.Nodup->(∀ x∈l,x<N)->l.length<=N:=by
 intro N
 induction N with
 |zero=>
  intro l hn h
  cases l with
  |nil=>exact zr _
  |cons x l=>exact absurd (h x lJ) (by omega)
 |succ N ih=>
  intro l hn h;have h1:(l.erase N).length<=N:=by
   refine ih _ (hn.erase N) (fun x hx=>?_);rw[hn.mem_erase_iff] at hx;have:=h x hx.2;have:=hx.1;omega
  by_cases hm:N∈l
  . rw[List.length_erase_of_mem hm] at h1;omega
  . rw[List.erase_of_not_mem hm] at h1;omega
theorem wu {i tag:Nat} (h:i<131071):aj (pJ i tag)=i:=by unfold aj pJ;omega
section
variable {N Lm n:Nat} {D τ υ:St} {L:Nat->List Nat} {O:Nat->Nat}
theorem CS.same (h:CS N D L O) (ew:∀ i,τ.word i=D.word i) (ec:τ.cut=D.cut) (es:τ.sw=D.sw) (fr:∀ i∈τ.free,O i=0) (ul:τ.listed=false->∀ i,O i=0):CS N τ L O:=by
 refine⟨fun E V=>?_,h.nd,h.lo,by rw[ec];exact h.ct,by rw[ec];exact h.cn,fr,ul,fun x hx ho=>?_⟩
 . rw[ew];exact (h.ch E V).nQ (fun _ _=>ew _)
 . rw[es] at hx;exact (h.sw x hx ho).nQ (fun _ _ _ _=>ew _) ho
theorem CS.list (h:CS N D L O):CS N D.list L O:=by
 unfold St.list
 split
 . exact h
 . rename_i hl
   have hl':D.listed=false:=by simpa using hl
   exact h.same (fun _=>rfl) rfl rfl (fun i _=>h.ul hl' i) (fun e=>(by cases e))
theorem CS.hand (h:CS N D L O) {i v:Nat} (h1:O i=0∨64<O i) (h2:O i≠200) (h3:i∈D.free->v=0) (h4:D.listed=true):CS N D L (Lj O i v):=by
 refine⟨h.ch,h.nd,fun E V l hl=>?_,fun p hp=>?_,h.cn,fun j hj=>?_,fun e=>(by rw[h4] at e;cases e),h.sw⟩
 . obtain⟨a,b⟩:=h.lo E V l hl
   exact⟨a,(mh (by intro e;rw[e] at b;omega)).trans b⟩
 . obtain⟨a,b⟩:=h.ct p hp
   exact⟨a,(mh (by intro e;rw[e] at b;exact h2 b)).trans b⟩
 . by_cases e:j=i
   . subst e;rw[qK];exact h3 hj
   . rw[mh e];exact h.fr j hj
theorem uS (D:St):D.take.1.words=D.words:=by
 have e:D.list.words=D.words:=by unfold St.list;split<;>rfl
 unfold St.take;simp only
 split<;>exact e
theorem CS.take (h:CS N D L O) (hs:Sh N Lm n D) (v:Nat):(D.take.2=none->CS N D.take.1 L O)∧∀ l,D.take.2=some l->O (aj l)=0∧CS N D.take.1 L (Lj O (aj l) v):=by
 have hl:=h.list;have hsl:=hs.list;unfold St.take;simp only
 split
 . exact⟨fun _=>hl,fun l e=>by cases e⟩
 . rename_i i hi
   have hmem:i∈D.list.free:=List.mem_of_getLast? hi;have hfr:=hsl.bK.fr i hmem;have hsplit:D.list.free=D.list.free.dropLast++[i]:=by
    have hne:D.list.free≠[]:=by intro e;rw[e] at hi;cases hi
    have h1:=List.dropLast_concat_getLast hne;have h2:D.list.free.getLast hne=i:=by
     rw[List.getLast?_eq_some_getLast hne] at hi;exact zj hi
    rw[h2] at h1;exact h1.symm
   have hnd:=hsl.bK.nd;rw[hsplit,List.nodup_append] at hnd;refine⟨fun e=>(by cases e),fun l e=>?_⟩;obtain rfl:=zj e;have hsi:aj (D.list.iU i)=i:=wu (by have:=hfr.1;have:=hs.n1;omega);rw[hsi];have h0:=hl.fr i hmem;refine⟨h0,?_⟩;have hl2:CS N {D.list with free:=D.list.free.dropLast,tags:=D.list.tags.set i ((D.list.tags.getD i (0,false)).1,true)} L O:=
    hl.same (fun _=>rfl) rfl rfl (fun j hj=>hl.fr j (by rw[hsplit];exact List.mem_append_left _ hj)) hl.ul
   exact hl2.hand (.inl h0) (by omega) (fun hf=>absurd rfl (hnd.2.2 i hf i (by simp))) (lX D)
theorem uT (D:St) (l:Nat):(D.give l).words=D.words:=by
 unfold St.give
 split
 . simp only;split<;>rfl
 . rfl
theorem CS.give (h:CS N D L O) {F:Nat} (h1:64<O (aj F)) (h2:O (aj F)≠200) (hl:D.listed=true):CS N (D.give F) L (Lj O (aj F) 0):=by
 have h0:=h.hand (v:=0) (.inr h1) h2 (fun _=>rfl) hl;unfold St.give
 split
 . simp only
   split
   . exact h0.same (fun _=>rfl) rfl rfl h0.fr h0.ul
   . refine h0.same (fun _=>rfl) rfl rfl (fun i hi=>?_) h0.ul
     change i∈D.free++[aj F] at hi;rw[List.mem_append] at hi
     rcases hi with hi|hi
     . exact h0.fr i hi
     . simp at hi;subst hi;exact qK O _ 0
 . exact h0
theorem Bh {l l':Nat} (h:¬ aj l=aj l'):¬ af l 2=af l' 2:=by unfold af;omega
theorem CS.next (h:CS N D L O) {F v:Nat} (h1:O (aj F)=0∨64<O (aj F)):CS N (D.put (af F 2) v) L O:=by
 have hw:∀ E,E<64->∀ l∈L E,(D.put (af F 2) v).word (af l 2)=D.word (af l 2):=fun E V l hl=>by
  rw[eZ,aX];rintro ⟨e,-⟩;have Z:=(h.lo E V l hl).2;refine Bh (fun e2=>?_) e;rw[e2] at Z;omega
 refine⟨fun E V=>?_,h.nd,h.lo,h.ct,h.cn,h.fr,h.ul,fun x hx ho=>(h.sw x hx ho).nQ hw ho⟩;rw[eZ,aX (by rintro ⟨e,-⟩;unfold af at e;omega)];exact (h.ch E V).nQ (hw E V)
theorem Li.mono {L':Nat->List Nat} (hm:∀ E,E<64->∀ l∈L E,l∈L' E) {x:S} (hx:QB N x) (h:Li D L x):Li D L' x:=by
 cases x with
 |visit E bZ F=>exact⟨hm E (by have:=hx.1;omega) _ h.1,fun ha=>⟨hm E (by have:=hx.1;omega) _ (h.2 ha).1,(h.2 ha).2⟩⟩
 |maker E bZ F id=>exact⟨hm E (by have:=hx.1;omega) _ h.1,fun ha=>⟨hm E (by have:=hx.1;omega) _ (h.2 ha).1,(h.2 ha).2⟩⟩
 |lM E bZ F b=>exact⟨hm E (by have:=hx.1;omega) _ h.1,fun ha=>⟨hm E (by have:=hx.1;omega) _ (h.2 ha).1,(h.2 ha).2⟩⟩
 |unlink E bZ F=>exact⟨hm E (by have:=hx.1;omega) _ h.1,fun ha=>⟨hm E (by have:=hx.1;omega) _ (h.2 ha).1,(h.2 ha).2⟩⟩
 |cut E bZ F next=>exact⟨hm E (by have:=hx.1;omega) _ h.1,fun ha=>⟨hm E (by have:=hx.1;omega) _ (h.2.1 ha).1,(h.2.1 ha).2⟩,h.2.2⟩
 |on E F=>exact hm E (by have:=hx.1;omega) _ h
 |live s=>trivial
 |head E=>trivial
 |now=>trivial
theorem CS.push (h:CS N D L O) {E head F:Nat} (V:E<64) (hl:LK N F) (h1:64<O (aj F)) (h2:O (aj F)≠200) (hw:D.word (af F 2)=head) (hh:D.word (9+E)=head) (hlen:9+E<D.words.length) (hls:D.listed=true):
 CS N (D.put (9+E) F) (R9 L E (F::L E)) (Lj O (aj F) (E+1)):=by
 have Jr:∀ l,(D.put (9+E) F).word (af l 2)=D.word (af l 2):=fun l=>by
  rw[eZ,aX];rintro ⟨e,-⟩;unfold af at e;omega
 have hno:∀ k,k<64->∀ l∈L k,¬ aj l=aj F:=fun k hk' l hl' e=>by
  have:=(h.lo k hk' l hl').2;rw[e] at this;omega
 refine⟨fun k hk'=>?_,fun k hk'=>?_,fun k hk' l hl'=>?_,fun p hp=>?_,h.cn,fun i hi=>?_,fun e=>(by rw[show D.listed=false from e] at hls;cases hls),fun x hx ho=>?_⟩
 . by_cases e:k=E
   . subst e
     rw[qL,eZ,aV ⟨rfl,hlen⟩];refine⟨rfl,hl.ne,?_⟩;rw[Jr,hw,<-hh];exact (h.ch k hk').nQ (fun l _=>Jr l)
   . rw[yL e,eZ,aX (by omega)]
     exact (h.ch k hk').nQ (fun l _=>Jr l)
 . by_cases e:k=E
   . subst e
     rw[qL,List.map_cons,List.nodup_cons];refine⟨fun hm=>?_,h.nd k hk'⟩;obtain⟨l,hl',e⟩:=List.mem_map.1 hm;exact hno k hk' l hl' e
   . rw[yL e];exact h.nd k hk'
 . by_cases e:k=E
   . subst e
     rw[qL] at hl'
     rcases List.mem_cons.1 hl' with rfl|hl'
     . exact⟨hl,qK _ _ _⟩
     . exact⟨(h.lo k hk' l hl').1,(mh (hno k hk' l hl')).trans (h.lo k hk' l hl').2⟩
   . rw[yL e] at hl'
     exact⟨(h.lo k hk' l hl').1,(mh (hno k hk' l hl')).trans (h.lo k hk' l hl').2⟩
 . obtain⟨a,b⟩:=h.ct p hp
   exact⟨a,(mh (by intro e;rw[e] at b;exact h2 b)).trans b⟩
 . have:=h.fr i hi
   rw[mh (by rintro rfl;omega)];exact this
 . refine Li.mono (L:=L) (fun k hk' l hl'=>?_) ho ((h.sw x hx ho).nQ (fun k hk' l _=>Jr l) ho)
   by_cases e:k=E
   . subst e;rw[qL];exact pq _ hl'
   . rw[yL e];exact hl'
theorem iY.split {a:Nat}:∀ {ls:List Nat} {h:Nat},iY D h ls->a∈ls->∃ pre post,ls=pre++a::post∧iY D (D.word (af a 2)) post:=by
 intro ls
 induction ls with
 |nil=>intro h _ ha;cases ha
 |cons l ls ih=>
  intro h hc ha
  by_cases e:a=l
  . subst e;exact⟨[],ls,rfl,hc.2.2⟩
  . obtain⟨pre,post,h1,h2⟩:=ih hc.2.2 ((List.mem_cons.1 ha).resolve_left e)
    exact⟨l::pre,post,by rw[h1];rfl,h2⟩
def Path (N:Nat) (D:St) (O:Nat->Nat) (q l:Nat):Prop:=∃ ls,iY D l ls∧∀ x∈ls,LK N x∧((1<=O (aj x)∧O (aj x)<=64)∨(O (aj x)=200∧∀ p∈D.cut,aj p.1=aj x->q<=p.2))
theorem Path.tail {q l:Nat} (h:Path N D O q l) (hl:l≠0):Path N D O q (D.word (af l 2)):=by
 obtain⟨ls,h1,h2⟩:=h
 cases ls with
 |nil=>exact absurd h1 hl
 |cons a ls=>obtain⟨e1,e2,e3⟩:=h1;subst e1;exact⟨ls,e3,fun x hx=>h2 x (pq _ hx)⟩
theorem Path.tq {q l:Nat} {O':Nat->Nat} (h:Path N D O q l) (ho:∀ i,(1<=O i∧O i<=64)∨O i=200->O' i=O i) (hw:∀ x,LK N x->(1<=O (aj x)∧O (aj x)<=64)∨O (aj x)=200->τ.word (af x 2)=D.word (af x 2)) (hc:τ.cut=D.cut):Path N τ O' q l:=by
 obtain⟨ls,h1,h2⟩:=h;refine⟨ls,h1.nQ (fun x hx=>hw x (h2 x hx).1 ((h2 x hx).2.imp id (·.1))),fun x hx=>?_⟩;obtain⟨a,b⟩:=h2 x hx;refine⟨a,?_⟩;rw[ho _ (b.imp id (·.1)),hc];exact b
theorem Path.quiet {q l:Nat} (h:Path N D O q l) (qt:Qt N D τ):Path N τ O q l:=h.tq (fun _ _=>rfl) (fun x hx _=>qt.w _ (Pl.next hx)) qt.cut
theorem CS.path (h:CS N D L O) {E:Nat} (V:E<64) (q:Nat):Path N D O q (D.word (9+E)):=
 ⟨L E,h.ch E V,fun x hx=>⟨(h.lo E V x hx).1,.inl (by have:=(h.lo E V x hx).2;omega)⟩⟩
end
section
variable {N Lm n:Nat} {D τ υ:St} {L:Nat->List Nat} {O:Nat->Nat}
end
def Pv (N:Nat) (D:St) (O:Nat->Nat) (s q:Nat):K->Prop
 |.visit _ l|.older _ l|.maker _ l _|.ended _ l _|.eY _ l _ _|.seen _ l _=>Path N D O q l
 |.fresh l=>l≠0->O (aj l)=100+s
 |.next l _ a|.free l _ a|.dB l _ a _=>(l≠0->O (aj l)=100+s)∧Path N D O q a
 |.dX _ l _|.dM _ l _|.push l _|.over l|.fU l _=>O (aj l)=100+s
 |.dC l head|.dI l head=>O (aj l)=100+s∧D.word (af l 2)=head
 |.turns tl _=>∀ x∈tl,¬ Pl N x.at_
 |_=>True
def uU (k:K):Prop:=∀ N D O s q,Pv N D O s q k
structure Left (N s q:Nat) (D:St) (O:Nat->Nat) (τ:St) (ok:Option K) (C':Nat->List Nat) (O':Nat->Nat):Prop where
 cs:CS N τ C' O'
 pv:∀ k,ok=some k->Pv N τ O' s q k
 ot:∀ i,O i≠0->O i≠100+s->O' i=O i
 ow:∀ l,LK N l->O (aj l)≠0->O (aj l)≠100+s->τ.word (af l 2)=D.word (af l 2)
 oc:τ.cut=D.cut
def bu (N s q:Nat) (D:St) (O:Nat->Nat) (r:St×Option K):Prop:=∃ C' O',Left N s q D O r.1 r.2 C' O'
section
variable {N L n s q d:Nat} {D τ υ:St} {t:bB} {c:dF} {C:Nat->List Nat} {O:Nat->Nat}
theorem CS.listed (h:CS N D C O) {i:Nat} (hi:O i≠0):D.listed=true:=by
 cases e:D.listed with
 |true=>rfl
 |false=>exact absurd (h.ul e i) hi
theorem bu.quiet (h:CS N D C O) (qt:Qt N D τ) {ok:Option K} (V:∀ k,ok=some k->Pv N τ O s q k):bu N s q D O (τ,ok):=
 ⟨C,O,h.quiet qt,V,fun _ _ _=>rfl,fun l hl _ _=>qt.w _ (Pl.next hl),qt.cut⟩
theorem bu.jV (h:CS N D C O) (qt:Qt N D τ) {k:K} (V:uU k):bu N s q D O (τ,some k):=bu.quiet h qt (fun k' e=>by obtain rfl:=zj e;exact V _ _ _ _ _)
theorem bu.last (h:CS N D C O) (qt:Qt N D τ):bu N s q D O (τ,none):=bu.quiet h qt (fun k' e=>by cases e)
theorem bu.keep (h:CS N D C O) (qt:Qt N D τ) {k:K} (V:Pv N τ O s q k):bu N s q D O (τ,some k):=bu.quiet h qt (fun k' e=>by obtain rfl:=zj e;exact V)
theorem bu.pre (qt:Qt N D τ) {r:St×Option K} (h:bu N s q τ O r):bu N s q D O r:=by
 obtain⟨C',O',h1,h2,h3,h4,h5⟩:=h;exact⟨C',O',h1,h2,h3,fun l hl a b=>(h4 l hl a b).trans (qt.w _ (Pl.next hl)),h5.trans qt.cut⟩
theorem gB (r:ic):uU (.fin r):=fun _ _ _ _ _=>trivial
theorem pW (h:dw):uU (.start h):=fun _ _ _ _ _=>trivial
theorem lG (e r:Nat):uU (.abort e r):=fun _ _ _ _ _=>trivial
theorem uV (t:bB) (i:Nat):uU (iK t i):=by unfold iK;split<;>exact fun _ _ _ _ _=>trivial
theorem su (t:bB) (i:Nat):uU (dm t i):=by
 unfold dm;simp only
 split
 . exact uV t 0
 . exact fun _ _ _ _ _=>trivial
theorem Hl (s:Nat):∀ (k:Nat) (τ:St) (E:Nat),Qt N τ (fA s k τ E).1∧uU (fA s k τ E).2:=by
 intro k
 induction k with
 |zero=>intro τ E;exact⟨Qt.refl N τ,gB _⟩
 |succ k ih=>
  intro τ E;unfold fA
  split
  . exact⟨Qt.refl N τ,gB _⟩
  . split
    . split
      . obtain⟨a,b⟩:=ih (τ.tell s E (τ.valueOf _)) (E+1)
        exact⟨(Qt.tell τ s E _).trans a,b⟩
      . exact ih τ (E+1)
    . exact⟨Qt.refl N τ,pW _⟩
theorem yM (s:Nat) (τ:St) (E:Nat):Qt N τ (τ.scan s E).1∧uU (τ.scan s E).2:=Hl s _ τ E
theorem rO (s:Nat) (τ:St) (h:dw) (F:Nat):Qt N τ (τ.thn s h F).1∧uU (τ.thn s h F).2:=by
 unfold St.thn
 split
 . simp only
   split
   . exact⟨Qt.read τ s _ _ _,gB _⟩
   . exact⟨Qt.read τ s _ _ _,gB _⟩
 . rename_i E _
   simp only
   split
   . obtain⟨a,b⟩:=yM (N:=N) s (τ.read s E F false) (E+1)
     exact⟨(Qt.read τ s _ _ _).trans a,b⟩
   . obtain⟨a,b⟩:=yM (N:=N) s ((τ.read s E F false).tell s E ((τ.read s E F false).valueOf F)) (E+1)
     exact⟨((Qt.read τ s _ _ _).trans (Qt.tell _ s _ _)).trans a,b⟩
 . simp only
   split
   . exact⟨Qt.read τ s _ _ _,gB _⟩
   . split
     . exact⟨Qt.read τ s _ _ _,gB _⟩
     . split
       . exact⟨Qt.refl N τ,fun _ _ _ _ _=>fun e=>absurd rfl e⟩
       . exact⟨Qt.refl N τ,fun _ _ _ _ _=>trivial⟩
 . try simp only
   split
   . exact⟨Qt.refl N τ,lG _ _⟩
   . exact⟨Qt.refl N τ,su _ _⟩
theorem Bi (s:Nat) (τ:St) (h:dw) (F:Nat) (hp:Path N τ O q F):Qt N τ (τ.visit s h F).1∧Pv N (τ.visit s h F).1 O s q (τ.visit s h F).2:=by
 unfold St.visit
 split
 . exact⟨(rO s τ h 0).1,(rO (N:=N) s τ h 0).2 _ _ _ _ _⟩
 . exact⟨Qt.refl N τ,hp⟩
theorem D5 (s:Nat) (τ:St) (h:dw) (F mb:Nat) (hp:Path N τ O q F):Qt N τ (τ.seen s h F mb).1∧Pv N (τ.seen s h F mb).1 O s q (τ.seen s h F mb).2:=by
 unfold St.seen
 split
 . exact⟨(rO s τ h F).1,(rO (N:=N) s τ h F).2 _ _ _ _ _⟩
 . exact⟨Qt.refl N τ,hp⟩
theorem Fh (s:Nat) (τ:St) (h:dw) (F w:Nat) (hp:Path N τ O q F):Pv N τ O s q (τ.jb s h F w):=by
 unfold St.jb
 split
 . exact hp
 . split<;>exact hp
theorem Hm (D:St):D.list.cut=D.cut:=by unfold St.list;split<;>rfl
theorem Bj (D:St) {bE:St} {o:Option Nat} (e:D.take=(bE,o)):bE.cut=D.cut:=by
 have:D.take.1.cut=D.cut:=by
  unfold St.take;simp only
  split<;>exact Hm D
 rw[e] at this;exact this
theorem Ho (D:St) (l:Nat):(D.give l).cut=D.cut:=(DY D l).2.2.1
theorem yN (h:CS N D C O) (hs:Sh N L n D) (x:Bool) {F head:Nat} (hl:F≠0->O (aj F)=100+s):bu N s q D O ((D.slot s x F head).1,some (D.slot s x F head).2):=by
 unfold St.slot
 by_cases h0:F=0
 . rw[aV h0]
   obtain⟨t1,t2⟩:=h.take hs (100+s);have hw:∀ i,D.take.1.word i=D.word i:=fun i=>by unfold St.word;rw[uS]
   cases e:D.take with
   |mk bE o=>
    rw[e] at t1 t2 hw
    cases o with
    |none=>exact⟨C,O,t1 rfl,fun k e=>by obtain rfl:=zj e;trivial,fun _ _ _=>rfl,fun l _ _ _=>hw _,Bj D e⟩
    |some l=>
     obtain⟨z,c2⟩:=t2 l rfl;refine⟨C,Lj O (aj l) (100+s),c2.quiet (Qt.vals _ _),fun k e=>?_,fun i hi _=>mh (by rintro rfl;omega),fun l _ _ _=>hw _,(Bj D e :)⟩;obtain rfl:=zj e;exact qK _ _ _
 . rw[aX h0]
   exact bu.keep h (Qt.vals _ _) (hl h0)
theorem Bl (h:CS N D C O) (hs:Sh N L n D) {F head at_:Nat} (hl:F≠0->O (aj F)=100+s) (hp:Path N D O q at_):bu N s q D O ((D.gT s F head at_).1,some (D.gT s F head at_).2):=by
 unfold St.gT
 split
 . exact yN h hs false hl
 . exact bu.keep h (Qt.refl N D) ⟨hl,hp⟩
theorem D6 (h:CS N D C O) {F:Nat} (s8:s<8) (hl:F≠0->O (aj F)=100+s):bu N s q D O ((D.lost F).1,some (D.lost F).2):=by
 unfold St.lost;simp only
 split
 . rename_i h0
   have e:=hl h0;refine⟨C,Lj O (aj F) 0,h.give (by omega) (by omega) (h.listed (i:=aj F) (by omega)),fun k e=>by obtain rfl:=zj e;trivial,fun i hi hne=>mh (by rintro rfl;exact hne e),fun l _ _ _=>by unfold St.word;rw[uT],Ho D F⟩
 . exact bu.jV h (Qt.refl N D) (lG _ _)
theorem uW (h:CS N D C O) (hs:Sh N L n D) (s8:s<8) {F head:Nat} (hl:LK N F) (ho:O (aj F)=100+s) {k:K} (V:∀ τ O,O (aj F)=100+s->τ.word (af F 2)=head->Pv N τ O s q k):bu N s q D O (D.put (af F 2) head,some k):=by
 have hlen:af F 2<D.words.length:=by have:=hl.aj;rw[hs.nw];unfold af;omega
 refine⟨C,O,h.next (.inr (by omega)),fun k' e=>?_,fun _ _ _=>rfl,fun l _ _ hne=>?_,rfl⟩
 . obtain rfl:=zj e
   exact V _ _ ho (by show (D.put _ _).word _=_;rw[eZ,aV ⟨rfl,hlen⟩])
 . show (D.put _ _).word _=_
   rw[eZ,aX];rintro ⟨e,-⟩;exact Bh (fun e2=>hne (by rw[e2];exact ho)) e
theorem uX (h:CS N D C O) (hs:Sh N L n D) (s8:s<8) {E F head:Nat} (hkey:E<64) (hl:LK N F) (ho:O (aj F)=100+s) (hw:D.word (af F 2)=head) (hh:D.word (9+E)=head) {ok:Option K} (V:∀ k,ok=some k->uU k) (qt:Qt N (D.put (9+E) F) τ):bu N s q D O (τ,ok):=by
 have hlen:9+E<D.words.length:=by rw[hs.nw];omega
 have h2:=h.push hkey hl (by omega) (by omega) hw hh hlen (h.listed (i:=aj F) (by omega));refine⟨_,_,h2.quiet qt,fun k e=>V k e _ _ _ _ _,fun i hi hne=>mh (by rintro rfl;exact hne ho),fun l hl' _ _=>?_,qt.cut⟩;refine (qt.w _ (Pl.next hl')).trans ?_;rw[eZ,aX];rintro ⟨e,-⟩;unfold af at e;omega
theorem Fj (D:St) (t:bB):∀ x∈dY D t,¬ Pl N x.at_:=by
 intro x hx;unfold dY at hx;rw[List.mem_flatMap] at hx;obtain⟨E,_,hx⟩:=hx;simp only at hx;rw[List.mem_append] at hx
 rcases hx with hx|hx
 . split at hx
   . rcases List.mem_cons.1 hx with rfl|hx
     . exact ji (by omega)
     . split at hx
       . cases hx
       . simp at hx;subst hx;exact ji (by omega)
   . cases hx
 . split at hx
   . simp at hx;subst hx;exact ji (by omega)
   . cases hx
theorem Hq (D:St) (t:bB):∀ x∈eU D t,¬ Pl N x.at_:=by
 intro x hx;unfold eU at hx;rw[List.mem_flatMap] at hx;obtain⟨E,_,hx⟩:=hx;simp only at hx
 split at hx
 . simp at hx;subst hx;exact ji (by omega)
 . cases hx
end
section
variable {N L n s cq d:Nat} {D τ υ:St} {t:bB} {c:dF} {C:Nat->List Nat} {O:Nat->Nat}
theorem bu.two (h:CS N D C O) (q:Qt N D τ) {r:St×K} (a:Qt N τ r.1∧Pv N r.1 O s cq r.2):bu N s cq D O (r.1,some r.2):=bu.keep h (q.trans a.1) a.2
theorem bu.MQ (h:CS N D C O) (q:Qt N D τ) {r:St×K} (a:Qt N τ r.1∧uU r.2):bu N s cq D O (r.1,some r.2):=bu.jV h (q.trans a.1) a.2
set_option maxHeartbeats 1600000 in
theorem MR (m:Mid N L n s 0 D D t c) {k:K} (V:uM N L t c k) (h:CS N D C O) (hp:Pv N D O s cq k):bu N s cq D O (D.run s k):=by
 have ec:=m.ec;have et:=m.et;have hs:=m.sh;have s8:=m.s8;have ht:CS N D.tick C O:=h.quiet (Qt.tick D);have qt:=Qt.tick (N:=N) D;have hst:Sh N L n D.tick:=hs.tick
 cases k with
 |fin r=>exact bu.last h (Qt.finish D s r)
 |start hh=>exact bu.two h qt (Bi s D.tick hh _ (ht.path V.1 cq))
 |visit hh F=>exact bu.keep h qt (Fh s _ hh F _ (Path.quiet hp qt))
 |older hh F=>exact bu.two h qt (Bi s D.tick hh _ ((Path.tail hp V.2.ne).quiet qt))
 |maker hh F id=>
  have hp2:=Path.quiet hp qt;simp only[St.run]
  split
  . exact bu.keep h qt hp2
  split<;>exact bu.keep h qt hp2
 |ended hh F mb=>
  have hp2:=Path.quiet hp qt;simp only[St.run]
  split
  . exact bu.keep h qt hp2
  split
  . exact bu.two h qt (D5 s D.tick hh F mb hp2)
  . exact bu.keep h qt hp2
 |eY hh F mb id=>
  have hp2:=Path.quiet hp qt;simp only[St.run]
  split
  . exact bu.two h qt (D5 s D.tick hh F mb hp2)
  split
  . exact bu.keep h (qt.trans (Qt.bind _ s id)) (hp2.quiet (Qt.bind _ s id))
  . exact bu.keep h qt hp2
 |seen hh F mb=>
  simp only[St.run]
  split
  . exact bu.jV h qt (fun _ _ _ _ _=>trivial)
  . split
    . exact bu.MQ h (qt.trans (Qt.bind _ s mb)) (rO s _ hh F)
    . exact bu.MQ h qt (rO s _ hh F)
 |again en=>
  simp only[St.run];have q1:∀ a b,Qt N D ((D.put (af a 1) b)):=fun a b=>Qt.put (ji (by omega))
  split
  . exact bu.jV h (((q1 _ _).trans (Qt.bq _ s _)).trans (Qt.vals _ _)) (gB _)
  . exact bu.jV h ((q1 _ _).trans (Qt.bq _ s _)) (gB _)
 |own F=>
  simp only[St.run]
  split
  . exact bu.jV h qt (fun _ _ _ _ _=>trivial)
  split<;>exact bu.jV h qt (fun _ _ _ _ _=>trivial)
 |fG F w id=>
  simp only[St.run]
  split<;>exact bu.jV h qt (fun _ _ _ _ _=>trivial)
 |claim F w=>
  simp only[St.run];have q1:Qt N D (D.bP (af F 1) w (mine (D.t s))):=Qt.bP (ji (by omega));have hs1:Sh N L n (D.bP (af F 1) w (mine (D.t s))):=by
   rw[et];exact hs.bP (gW (w:=1) V.1 (by omega) (lZ m.t1) (lY m.t1))
  split
  . exact bu.jV h q1 (fun _ _ _ _ _=>trivial)
  . split
    . exact bu.jV h (q1.trans (Qt.bq _ s _)) (gB _)
    . have q2:=q1.trans (Qt.bq (D.bP (af F 1) w (mine (D.t s))) s {(D.bP (af F 1) w (mine (D.t s))).t s with cells:=(((D.bP (af F 1) w (mine (D.t s))).c s).op.E,(⟨0,F,false⟩:jr))::((D.bP (af F 1) w (mine (D.t s))).t s).cells,keys:=((D.bP (af F 1) w (mine (D.t s))).t s).keys++[((D.bP (af F 1) w (mine (D.t s))).c s).op.E]})
      exact bu.pre q2 (yN (h.quiet q2) (hs1.bq s _) true (fun e=>absurd rfl e))
 |fresh F=>
  simp only[St.run,ec];exact bu.pre qt (Bl ht hst hp (ht.path V.2.2 cq))
 |next F head at_=>
  simp only[St.run];exact bu.pre qt (Bl ht hst hp.1 ((Path.tail hp.2 V.2.2.1.ne).quiet qt))
 |free F head at_=>
  simp only[St.run]
  split
  . exact bu.keep h qt ⟨hp.1,hp.2.quiet qt⟩
  split
  . exact bu.pre qt (D6 ht s8 hp.1)
  . exact bu.keep h qt ⟨hp.1,hp.2.quiet qt⟩
 |dB F head at_ id=>
  simp only[St.run]
  split
  . exact bu.keep h qt ⟨hp.1,hp.2.quiet qt⟩
  . exact bu.pre qt (D6 ht s8 hp.1)
 |dX x F head=>exact bu.keep h (Qt.put (ji (by omega))) hp
 |dM x F head=>
  have q1:Qt N D (D.put (af F 1) ever):=Qt.put (ji (by omega))
  cases x with
  |true=>exact bu.keep h q1 hp
  |false=>exact bu.keep h q1 hp
 |push F head=>exact uW h hs s8 V.1 hp (fun τ O a b=>⟨a,b⟩)
 |fU F head=>exact uW h hs s8 V.1 hp (fun τ O a b=>⟨a,b⟩)
 |dC F head=>
  obtain⟨hl,_,_,hkk⟩:=V;obtain⟨p1,p2⟩:=hp;simp only[St.run,ec]
  split
  . rename_i hne
    have e:D.bP (9+c.op.E) head F=D.tick:=by unfold St.bP;rw[aX hne]
    rw[e];exact bu.keep h qt (fun _=>p1)
  . rename_i hne
    have hh:D.word (9+c.op.E)=head:=by
     by_cases e:D.word (9+c.op.E)=head
     . exact e
     . exact absurd e hne
    have e:D.bP (9+c.op.E) head F=D.put (9+c.op.E) F:=by unfold St.bP;rw[aV hh]
    rw[e];exact uX h hs s8 hkk hl p1 p2 hh (fun k e=>by obtain rfl:=zj e;exact gB _) (Qt.bq _ s _)
 |over F=>exact bu.keep h qt hp
 |dI F head=>
  obtain⟨hl,_,_,hkk⟩:=V;obtain⟨p1,p2⟩:=hp;simp only[St.run,ec]
  split
  . rename_i hne
    have e:D.bP (9+c.op.E) head F=D.tick:=by unfold St.bP;rw[aX hne]
    rw[e];exact bu.keep h qt p1
  . rename_i hne
    have hh:D.word (9+c.op.E)=head:=by
     by_cases e:D.word (9+c.op.E)=head
     . exact e
     . exact absurd e hne
    have e:D.bP (9+c.op.E) head F=D.put (9+c.op.E) F:=by unfold St.bP;rw[aV hh]
    rw[e];exact uX h hs s8 hkk hl p1 p2 hh (fun k e=>by obtain rfl:=zj e;exact gB _) (Qt.bq _ s _)
 |draw=>
  simp only[St.run]
  split
  . exact bu.jV h qt (lG _ _)
  split<;>exact bu.jV h qt (fun _ _ _ _ _=>trivial)
 |dJ w now=>exact bu.jV h (Qt.bT hs.sl w) (fun _ _ _ _ _=>trivial)
 |turn w now=>
  simp only[St.run];have q1:∀ a b,Qt N D (D.bP 0 a b):=fun a b=>Qt.bP uR
  split
  . exact bu.jV h (q1 _ _) (fun _ _ _ _ _=>trivial)
  . exact bu.jV h (((q1 _ _).trans (Qt.bq _ s _)).trans (Qt.event _ _)) (fun _ _ _ _ _=>trivial)
 |dD=>exact bu.jV h (Qt.bT hs.sl _) (su _ _)
 |wait i=>
  simp only[St.run]
  split
  . exact bu.jV h qt (uV _ _)
  split
  . exact bu.jV h qt (lG _ _)
  . exact bu.jV h (qt.trans (Qt.aF _ s _)) (fun _ _ _ _ _=>trivial)
 |bO=>
  have q1:Qt N D (D.put (D.place (D.t s).id) (pack 3 (D.t s).ax)):=Qt.put (by rw[hs.place];exact nk);exact bu.keep h (q1.trans (Qt.bW _ s _)) (Fj _ _)
 |abort e ay=>
  have q1:Qt N D (D.put (D.place (D.t s).id) (pack 4 (D.t s).ax)):=Qt.put (by rw[hs.place];exact nk);exact bu.keep h (q1.trans (Qt.bW _ s _)) (Hq _ _)
 |turns tl r=>
  cases tl with
  |nil=>exact bu.last h ((Qt.put (xD s8)).trans (Qt.finish _ s r))
  |cons x tl=>
   have hx:=hp x lJ;simp only[St.run]
   split
   . exact bu.keep h (Qt.put hx) (fun y hy=>hp y (pq _ hy))
   . exact bu.keep h (Qt.bP hx) (fun y hy=>hp y (pq _ hy))
end
def WC (N:Nat) (D:St):Prop:=∃ C O,CS N D C O∧(∀ q c,D.calls.getD q none=some c->c.seq<=D.seq)∧∀ q c k,D.calls.getD q none=some c->c.k=some k->Pv N D O q c.seq k
section
variable {N L n s d:Nat} {D τ υ:St} {t:bB} {c:dF} {C:Nat->List Nat} {O O':Nat->Nat}
theorem pX {D az:St} {s:Nat} (h:iW D az s=true):∀ q,q≠s->az.calls.getD q none=D.calls.getD q none:=by
 intro q hq;unfold iW at h;simp only[gQ,zd,List.all_eq_true,List.mem_range,oL,beq_iff_eq] at h
 by_cases h8:q<8
 . exact (h.2 q h8).resolve_left hq
 . simp[mM,FC (show az.calls.length<=q by omega),FC (show D.calls.length<=q by omega)]
theorem Pv.other {q cq:Nat} {k:K} (hp:Pv N D O q cq k) (hq:∀ i,O i=100+q->O' i=O i) (hw:∀ l head,(k=.dC l head∨k=.dI l head)->O (aj l)=100+q->τ.word (af l 2)=D.word (af l 2)) (hpt:∀ l,Path N D O cq l->Path N τ O' cq l):Pv N τ O' q cq k:=by
 cases k with
 |visit _ l=>exact hpt l hp
 |older _ l=>exact hpt l hp
 |maker _ l _=>exact hpt l hp
 |ended _ l _=>exact hpt l hp
 |eY _ l _ _=>exact hpt l hp
 |seen _ l _=>exact hpt l hp
 |fresh l=>exact fun h=>(hq _ (hp h)).trans (hp h)
 |next l _ _=>exact⟨fun h=>(hq _ (hp.1 h)).trans (hp.1 h),hpt _ hp.2⟩
 |free l _ _=>exact⟨fun h=>(hq _ (hp.1 h)).trans (hp.1 h),hpt _ hp.2⟩
 |dB l _ _ _=>exact⟨fun h=>(hq _ (hp.1 h)).trans (hp.1 h),hpt _ hp.2⟩
 |dX _ l _=>exact (hq _ hp).trans hp
 |dM _ l _=>exact (hq _ hp).trans hp
 |push l _=>exact (hq _ hp).trans hp
 |over l=>exact (hq _ hp).trans hp
 |fU l _=>exact (hq _ hp).trans hp
 |dC l head=>exact⟨(hq _ hp.1).trans hp.1,(hw l head (.inl rfl) hp.1).trans hp.2⟩
 |dI l head=>exact⟨(hq _ hp.1).trans hp.1,(hw l head (.inr rfl) hp.1).trans hp.2⟩
 |turns tl r=>exact hp
 |_=>trivial
theorem Pv.same {q cq:Nat} {k:K} (hp:Pv N D O q cq k) (qt:Qt N D τ) (V:∀ l head,(k=.dC l head∨k=.dI l head)->LK N l):Pv N τ O q cq k:=
 hp.other (fun _ _=>rfl) (fun l head e _=>qt.w _ (Pl.next (V l head e))) (fun l h=>h.quiet qt)
theorem uM.lk {k:K} (h:uM N L t c k):∀ l head,(k=.dC l head∨k=.dI l head)->LK N l:=by
 rintro l head (rfl|rfl)
 . exact h.1
 . exact h.1
theorem WF.TJ (h:WF N L n D) {q:Nat} {c:dF} {k:K} (hc:D.calls.getD q none=some c) (V:c.k=some k):∀ l head,(k=.dC l head∨k=.dI l head)->LK N l:=by
 obtain⟨t,ht,hx⟩:=h.cx q c hc;obtain⟨k',e,hk'⟩:=hx.k;rw[V] at e;obtain rfl:=zj e;exact hk'.lk
theorem WC.after (h:WF N L n D) (hw:WC N D) (hs:s<8) {ok:Option K} {cq:Nat} (h0:∀ C O,CS N D C O->(∀ q c k,D.calls.getD q none=some c->c.k=some k->Pv N D O q c.seq k)->bu N s cq D O (τ,ok))
 (hq:Qt N τ υ) (ho:∀ q,q≠s->υ.calls.getD q none=D.calls.getD q none) (hself:∀ c k,υ.calls.getD s none=some c->c.k=some k->ok=some k) (hseq:∀ c,υ.calls.getD s none=some c->c.seq=cq∧cq<=υ.seq) (vY:D.seq<=υ.seq) (hlk:∀ k,ok=some k->∀ l head,(k=.dC l head∨k=.dI l head)->LK N l):WC N υ:=by
 obtain⟨C,O,hc,hcs,hp⟩:=hw;obtain⟨C',O',h1,h2,h3,h4,h5⟩:=h0 C O hc hp;refine⟨C',O',h1.quiet hq,fun q c hcq=>?_,fun q c k hcq V=>?_⟩
 . by_cases e:q=s
   . subst e
     obtain⟨e1,e2⟩:=hseq c hcq;omega
   . rw[ho q e] at hcq
     exact eP (hcs q c hcq) vY
 . by_cases e:q=s
   . subst e
     have e1:=hself c k hcq V;rw[(hseq c hcq).1];exact (h2 k e1).same hq (hlk k e1)
   . rw[ho q e] at hcq
     have hl:=h.TJ hcq V;exact ((hp q c k hcq V).other (fun i hi=>h3 i (by omega) (by omega)) (fun l head e1 e2=>h4 l (hl l head e1) (by omega) (by omega)) (fun l U3=>U3.tq (fun i hi=>h3 i (by omega) (by omega)) (fun x hx hi=>h4 x hx (by omega) (by omega)) h5)).same hq hl
theorem WC.step (h:WF N L n D) (hw:WC N D) (hs:s<8) {aH:St} {kd:Nat} {r:ic} (hst:ja D s=some (aH,kd,r)):WC N aH:=by
 unfold ja at hst
 split at hst
 . rename_i t0 c ht hc
   split at hst
   . rename_i k0 hk0
     obtain⟨t,k,V,ht2,m,ho,hr,hkk⟩:=h.mid hs hc;rw[hk0] at V;obtain rfl:=zj V;obtain⟨d,hd,sP⟩:=yJ m ho hr rfl hkk
     split at hst
     rename_i az ok e;rw[e] at sP
     split at hst
     . rename_i c2 hc2
       split at hst
       . rename_i hcond
         have hoth:=pX hcond.2.1;have hleft:∀ C O,CS N D C O->(∀ q c k,D.calls.getD q none=some c->c.k=some k->Pv N D O q c.seq k)->bu N s c.seq D O (az,ok):=by
          intro C O hcs hp;have q0:Qt N D (D.aF s {c with waits:=false}):=Qt.aF D s _;have hx:=MR m hkk (hcs.quiet q0) ((hp s c k0 hc hk0).same q0 hkk.lk);rw[e] at hx;exact bu.pre q0 hx
         have rG:s<az.calls.length:=by
          cases hh:decide (s<az.calls.length) with
          |true=>simpa using hh
          |false=>
           have hh':¬ s<az.calls.length:=by simpa using hh
           rw[mM,FC (by omega)] at hc2
           cases hc2
         have hlk:∀ k,ok=some k->∀ l head,(k=.dC l head∨k=.dI l head)->LK N l:=by
          intro k ek;subst ek;obtain⟨t2,c2',m2,h1,h2,h3⟩:=sP;exact h3.lk
         have Hr:c2.seq=c.seq∧az.seq=D.seq:=by
          cases ok with
          |none=>
           obtain⟨t2,c2',m2,-⟩:=sP;have e1:=m2.ca;simp only at e1;rw[hc2] at e1;obtain rfl:=zj e1;exact⟨m2.oq.2.trans (by rw[m.ec]),m2.sq⟩
          |some k'=>
           obtain⟨t2,c2',m2,-⟩:=sP;have e1:=m2.ca;simp only at e1;rw[hc2] at e1;obtain rfl:=zj e1;exact⟨m2.oq.2.trans (by rw[m.ec]),m2.sq⟩
         obtain⟨Hr,Sa⟩:=Hr;have MS:D.seq<=az.seq:=Nat.le_of_eq Sa.symm;have hcs2:c.seq<=D.seq:=by obtain⟨C,O,-,h2,-⟩:=hw;exact h2 s c hc
         have hset:∀ (x:Option dF) q,(az.calls.set s x).getD q none=if q=s then x else az.calls.getD q none:=fun x q=>aM _ _ _ _ rG
         unfold jT at hst
         split at hst
         . rename_i k'
           split at hst
           . obtain⟨rfl,-⟩:=gZ _ _ _ _ ▸ zj hst
             refine WC.after h hw hs hleft ⟨fun _ _=>rfl,rfl,rfl,rfl,rfl,rfl⟩ (fun q hq=>?_) (fun c k e1 e2=>?_) (fun c4 e1=>?_) MS hlk
             . show (az.calls.set s _).getD q none=_
               rw[hset,aX hq];exact hoth q hq
             . change (az.calls.set s _).getD s none=some c at e1
               rw[hset,aV rfl] at e1;obtain rfl:=zj e1;exact e2
             . change (az.calls.set s _).getD s none=some c4 at e1
               rw[hset,aV rfl] at e1;obtain rfl:=zj e1;exact⟨Hr,by have:=hcs2;show c.seq<=az.seq;omega⟩
           . cases hst
         . split at hst
           . split at hst
             . split at hst
               . split at hst
                 . obtain⟨rfl,-⟩:=gZ _ _ _ _ ▸ zj hst
                   refine WC.after h hw hs hleft ⟨fun _ _=>rfl,rfl,rfl,rfl,rfl,rfl⟩ (fun q hq=>?_) (fun c k e1 e2=>?_) (fun c4 e1=>?_) MS hlk
                   . show ((az.calls.set s _).set s none).getD q none=_
                     rw[aM _ _ _ _ (by rw[pz];exact rG),aX hq,hset,aX hq];exact hoth q hq
                   . change ((az.calls.set s _).set s none).getD s none=some c at e1
                     rw[aM _ _ _ _ (by rw[pz];exact rG),aV rfl] at e1
                     cases e1
                   . change ((az.calls.set s _).set s none).getD s none=some c4 at e1
                     rw[aM _ _ _ _ (by rw[pz];exact rG),aV rfl] at e1
                     cases e1
                 . cases hst
               . cases hst
             . split at hst
               . obtain⟨rfl,-⟩:=gZ _ _ _ _ ▸ zj hst
                 refine WC.after h hw hs hleft ⟨fun _ _=>rfl,rfl,rfl,rfl,rfl,rfl⟩ (fun q hq=>?_) (fun c k e1 e2=>?_) (fun c4 e1=>?_) MS hlk
                 . show ((az.calls.set s _).set s none).getD q none=_
                   rw[aM _ _ _ _ (by rw[pz];exact rG),aX hq,hset,aX hq];exact hoth q hq
                 . change ((az.calls.set s _).set s none).getD s none=some c at e1
                   rw[aM _ _ _ _ (by rw[pz];exact rG),aV rfl] at e1
                   cases e1
                 . change ((az.calls.set s _).set s none).getD s none=some c4 at e1
                   rw[aM _ _ _ _ (by rw[pz];exact rG),aV rfl] at e1
                   cases e1
               . cases hst
           . cases hst
       . cases hst
     . cases hst
   . cases hst
 . cases hst
end
section
variable {N L n s cq d:Nat} {D τ υ:St} {t:bB} {c:dF} {C:Nat->List Nat} {O O':Nat->Nat}
theorem Ht (h:CS N D C O) (hs:Sh N L n D):bu N s cq D O ((D.first s).1,some (D.first s).2):=by
 unfold St.first;simp only
 split
 . split
   . refine bu.jV h (Qt.refl N D) ?_
     split<;>exact gB _
   . exact bu.jV h (Qt.refl N D) (pW _)
 . exact bu.MQ h (Qt.refl N D) (yM s D _)
 . exact bu.jV h (Qt.refl N D) (fun _ _ _ _ _=>trivial)
 . exact bu.jV h (Qt.refl N D) (lG _ _)
 . split
   . split
     . exact bu.jV h (Qt.refl N D) (gB _)
     . split
       . exact bu.jV h (Qt.refl N D) (gB _)
       . split
         . exact yN h hs true (fun e=>absurd rfl e)
         . exact bu.jV h (Qt.refl N D) (fun _ _ _ _ _=>trivial)
   . exact bu.jV h (Qt.refl N D) (pW _)
theorem uY (D:St) (s:Nat) (o:En.Op) (t:bB):Qt N D (bR D s o t):=by
 unfold bR
 split<;>exact⟨fun _ _=>rfl,rfl,rfl,rfl,rfl,rfl⟩
theorem WC.nN (h:WF N L n D) (hw:WC N D) (hs:s<8) {o:En.Op} {aH:St} (hi:gV D s o=some aH):WC N aH:=by
 unfold gV at hi
 split at hi
 . rename_i t ht
   split at hi
   . rename_i hcond
     obtain⟨ho,hcn,hop,vY,rG,U4,hf⟩:=hcond;have m:=h.MO hs ht o ho (hop.imp id (·.1));have hout:=rH m rfl rfl
     split at hi
     rename_i dL k e
     split at hi
     . rename_i c4 hc4
       split at hi
       . rename_i hoth
         obtain rfl:=zj hi;have Pt:=pX hoth;have hl4:s<dL.calls.length:=by
          cases hh:decide (s<dL.calls.length) with
          |true=>simpa using hh
          |false=>
           have hh':¬ s<dL.calls.length:=by simpa using hh
           rw[mM,FC (by omega)] at hc4
           cases hc4
         rw[e] at hout;refine WC.after (τ:=dL) (ok:=some k) (cq:=D.seq+1) h hw hs (fun C O hcs hp=>?_) (Qt.aF dL s _) (fun q hq=>?_) (fun c k' e1 e2=>?_) (fun c e1=>?_) ?_ (fun k' ek=>?_)
         . have hx:=Ht (s:=s) (cq:=D.seq+1) (hcs.quiet (uY D s o t)) m.sh
           rw[e] at hx;exact bu.pre (uY D s o t) hx
         . show (dL.calls.set s _).getD q none=_
           rw[aM _ _ _ _ hl4,aX hq];exact Pt q hq
         . change (dL.calls.set s _).getD s none=some c at e1
           rw[aM _ _ _ _ hl4,aV rfl] at e1;obtain rfl:=zj e1;exact e2
         . change (dL.calls.set s _).getD s none=some c at e1
           rw[aM _ _ _ _ hl4,aV rfl] at e1;obtain rfl:=zj e1;obtain⟨t2,c2,m2,-⟩:=hout;have e1:=m2.ca;simp only at e1;rw[hc4] at e1;obtain rfl:=zj e1;have e5:=m2.sq;have e6:=m2.oq.2;rw[m.ec] at e6;refine⟨e6,?_⟩;show D.seq+1<=dL.seq;rw[show dL.seq=_ from e5,(rJ D s o t).2.2.1];exact zr _
         . obtain⟨t2,c2,m2,-⟩:=hout
           show D.seq<=dL.seq;rw[show dL.seq=_ from m2.sq,(rJ D s o t).2.2.1];omega
         . obtain rfl:=zj ek
           obtain⟨t2,c2,m2,h1,h2,h3⟩:=hout;exact h3.lk
       . cases hi
     . cases hi
   . cases hi
 . cases hi
theorem WC.quiet (h:WF N L n D) (hw:WC N D) (q:Qt N D τ) (hc:τ.calls=D.calls) (vY:τ.seq=D.seq):WC N τ:=by
 obtain⟨C,O,h1,h3,h2⟩:=hw;refine⟨C,O,h1.quiet q,fun p c e1=>?_,fun p c k e1 e2=>?_⟩
 . rw[hc] at e1
   rw[vY];exact h3 p c e1
 . rw[hc] at e1
   exact (h2 p c k e1 e2).same q (h.TJ e1 e2)
theorem uZ (hs:s<8) (hsl:D.aC=N) {az:St} (q:Qt N D az) (ak:Nat):Qt N D (bC D s ak az):=by
 unfold bC;refine q.trans (Qt.trans (τ:=({az with aA:=D.aA+1}:St)) ⟨fun _ _=>rfl,rfl,rfl,rfl,rfl,rfl⟩ ?_);refine ((((Qt.bP uR).trans (Qt.put ?_)).trans (Qt.put (xD hs))).trans (Qt.bq _ s _)).trans (Qt.event _ _);have:D.place (D.aA+1)=73+N*3+(D.aA+1):=by unfold St.place;rw[hsl]
 rw[this];exact nk
theorem ve (D:St) (i a b:Nat):(D.bP i a b).calls=D.calls:=by unfold St.bP;split<;>rfl
theorem pG (D:St) (s ak:Nat) (az:St):(bC D s ak az).calls=az.calls:=by
 unfold bC;show (({az with aA:=D.aA+1}:St).bP 0 _ _).calls=_;rw[ve]
theorem WC.aG (h:WF N L n D) (hw:WC N D) (hs:s<8) {ak id:Nat} {aH:St} (Z:gG D s ak=some (aH,id)):WC N aH:=by
 unfold gG at Z
 split at Z
 . split at Z
   . obtain⟨rfl,-⟩:=gZ _ _ _ _ ▸ zj Z
     exact hw.quiet h (uZ hs h.sh.sl (Qt.tick D) ak) (pG _ _ _ _) (rM _ _ _ _).2.1
   . split at Z
     . obtain⟨rfl,-⟩:=gZ _ _ _ _ ▸ zj Z
       refine hw.quiet h (uZ hs h.sh.sl ((Qt.tick D).trans (Qt.bT (D:=D.tick) h.sh.sl _)) ak) ((pG _ _ _ _).trans ?_) ((rM _ _ _ _).2.1.trans ?_)
       . unfold St.bT
         rw[ve];rfl
       . unfold St.bT St.bP
         split<;>rfl
     . cases Z
 . cases Z
theorem WC.new (N L:Nat):WC N (new N L):=by
 have hwd:∀ i,(En.new N L).word i=0:=fun i=>by
  unfold St.word;show (List.replicate _ 0).getD i 0=0;rw[mM,List.getElem?_replicate]
  split<;>rfl
 refine⟨fun _=>[],fun _=>0,⟨fun E _=>hwd _,fun _ _=>List.nodup_nil,fun _ _ l hl=>(by cases hl),fun p hp=>(by cases hp),List.nodup_nil,fun _ _=>rfl,fun _ _=>rfl,fun x hx=>(by cases hx)⟩,fun q c hc=>?_,fun q c k hc=>?_⟩
 all_goals exfalso
 all_goals change (List.replicate 8 none).getD q none=some c at hc
 all_goals rw[mM,List.getElem?_replicate] at hc
 all_goals split at hc<;>cases hc
end
end Go.Proofs.YthicolbbmjfkfaaGreat.Em.Cw
