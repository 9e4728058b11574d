import Derived.Test.YthicolbbmjfkfaaGreatQn21
set_option linter.unusedVariables false
set_option linter.unusedSimpArgs false
set_option maxRecDepth 100000
set_option maxHeartbeats 1600000
namespace Go.Proofs.YthicolbbmjfkfaaGreat.Em.Cw
open En
/- What holds a key's versions together:every chain ends,no slot stands twice in it. -/
def fE (D:St):Nat->List Nat->Prop
 |h,[]=>h=0
 |h,l::ls=>h=l∧l≠0∧fE D (D.word (af l 2)) ls
def Pl (N i:Nat):Prop:=(9<=i∧i<73)∨(73<=i∧i<73+N*3∧i % 3=0)
def GH (D:St) (L:Nat->List Nat):S->Prop
 |.visit F ak G|.maker F ak G _|.dD F ak G _|.unlink F ak G=>G∈L F∧(ak≠0->ak∈L F∧D.word (af ak 2)=G)
 |.cut F ak G next=>G∈L F∧(ak≠0->ak∈L F∧D.word (af ak 2)=G)∧D.word (af G 2)=next
 |.on F G=>G∈L F
 |_=>True
structure CS (N:Nat) (D:St) (L:Nat->List Nat) (O:Nat->Nat):Prop where
 ch:∀ F,F<64->fE D (D.word (9+F)) (L F)
 nd:∀ F,F<64->((L F).map ag).Nodup
 lo:∀ F,F<64->∀ l∈L F,LK N l∧O (ag l)=F+1
 ct:∀ p∈D.cut,LK N p.1∧O (ag p.1)=200
 cn:(D.cut.map fun p=>ag p.1).Nodup
 fr:∀ i∈D.free,O i=0
 ul:D.listed=false->∀ i,O i=0
 sw:∀ x,D.sw=some x->Gy N x->GH D L x
structure Qt (N:Nat) (D τ:St):Prop where
 w:∀ i,Pl N i->τ.word i=D.word i
 free:τ.free=D.free
 listed:τ.listed=D.listed
 cut:τ.cut=D.cut
 sw:τ.sw=D.sw
 aF:τ.aF=D.aF
section
variable {N:Nat} {D τ υ:St} {L:Nat->List Nat} {O:Nat->Nat}
theorem Pl.head {F:Nat} (h:F<64):Pl N (9+F):=.inl ⟨by omega,by omega⟩
theorem Pl.next {l:Nat} (h:LK N l):Pl N (af l 2):=by
 have:=h.ag;right;unfold af;omega
theorem fE.kQ {ls:List Nat} (hw:∀ l∈ls,τ.word (af l 2)=D.word (af l 2)):∀ {h:Nat},fE D h ls->fE τ h ls:=by
 induction ls with
 |nil=>intro h hc;exact hc
 |cons l ls ih=>
  intro h hc;refine⟨hc.1,hc.2.1,?_⟩;rw[hw l nK];exact ih (fun l' hl'=>hw l' (qg _ hl')) hc.2.2
theorem Qt.refl (N:Nat) (D:St):Qt N D D:=⟨fun _ _=>rfl,rfl,rfl,rfl,rfl,rfl⟩
theorem Qt.trans (a:Qt N D τ) (b:Qt N τ υ):Qt N D υ:=⟨fun i h=>(b.w i h).trans (a.w i h),b.free.trans a.free,b.listed.trans a.listed,b.cut.trans a.cut,b.sw.trans a.sw,b.aF.trans a.aF⟩
theorem GH.kQ (hw:∀ F,F<64->∀ l∈L F,τ.word (af l 2)=D.word (af l 2)) {x:S} (hx:Gy N x) (h:GH D L x):GH τ L x:=by
 cases x with
 |visit F ak G=>exact⟨h.1,fun ha=>⟨(h.2 ha).1,(hw F (by have:=hx.1;omega) _ (h.2 ha).1).trans (h.2 ha).2⟩⟩
 |maker F ak G id=>exact⟨h.1,fun ha=>⟨(h.2 ha).1,(hw F (by have:=hx.1;omega) _ (h.2 ha).1).trans (h.2 ha).2⟩⟩
 |dD F ak G b=>exact⟨h.1,fun ha=>⟨(h.2 ha).1,(hw F (by have:=hx.1;omega) _ (h.2 ha).1).trans (h.2 ha).2⟩⟩
 |unlink F ak G=>exact⟨h.1,fun ha=>⟨(h.2 ha).1,(hw F (by have:=hx.1;omega) _ (h.2 ha).1).trans (h.2 ha).2⟩⟩
 |cut F ak G next=>exact⟨h.1,fun ha=>⟨(h.2.1 ha).1,(hw F (by have:=hx.1;omega) _ (h.2.1 ha).1).trans (h.2.1 ha).2⟩,(hw F (by have:=hx.1;omega) _ h.1).trans h.2.2⟩
 |on F G=>exact h
 |live s=>trivial
 |head F=>trivial
 |now=>trivial
theorem CS.quiet (h:CS N D L O) (q:Qt N D τ):CS N τ L O:=by
 have hw:∀ F,F<64->∀ l∈L F,τ.word (af l 2)=D.word (af l 2):=fun F Z l hl=>q.w _ (Pl.next (h.lo F Z l hl).1)
 refine⟨fun F Z=>?_,h.nd,h.lo,?_,?_,?_,?_,?_⟩
 . rw[q.w _ (Pl.head Z)]
   exact (h.ch F Z).kQ (hw F Z)
 . rw[q.cut];exact h.ct
 . rw[q.cut];exact h.cn
 . rw[q.free];exact h.fr
 . rw[q.listed];exact h.ul
 . intro x hx ho
   rw[q.sw] at hx;exact (h.sw x hx ho).kQ hw ho
theorem Qt.tick (D:St):Qt N D D.tick:=⟨fun _ _=>rfl,rfl,rfl,rfl,rfl,rfl⟩
theorem Qt.put {i v:Nat} (hi:¬ Pl N i):Qt N D (D.put i v):=by
 refine⟨fun j hj=>?_,rfl,rfl,rfl,rfl,rfl⟩;rw[bZ];have:¬ j=i:=by rintro rfl;exact hi hj
 rw[aR (fun e=>this e.1)]
theorem Qt.cB {i o v:Nat} (hi:¬ Pl N i):Qt N D (D.cB i o v):=by
 unfold St.cB
 split
 . exact Qt.put hi
 . exact Qt.tick D
theorem Qt.bK (D:St) (s:Nat) (t:bL):Qt N D (D.bK s t):=⟨fun _ _=>rfl,rfl,rfl,rfl,rfl,rfl⟩
theorem Qt.aK (D:St) (s:Nat) (c:dN):Qt N D (D.aK s c):=⟨fun _ _=>rfl,rfl,rfl,rfl,rfl,rfl⟩
theorem Qt.event (D:St) (e:Ev):Qt N D (D.event e):=⟨fun _ _=>rfl,rfl,rfl,rfl,rfl,rfl⟩
theorem Qt.vals (D:St) (v:List (Nat×Nat)):Qt N D {D with values:=v}:=⟨fun _ _=>rfl,rfl,rfl,rfl,rfl,rfl⟩
theorem Qt.bind (D:St) (s tq:Nat):Qt N D (D.bind s tq):=by
 unfold St.bind
 split
 . exact Qt.refl N D
 . exact (Qt.bK D s _).trans (Qt.event _ _)
theorem Qt.read (D:St) (s F G:Nat) (got:Bool):Qt N D (D.read s F G got):=Qt.bK D s _
theorem Qt.tell (D:St) (s F v:Nat):Qt N D (D.tell s F v):=Qt.aK D s _
theorem Qt.dH (D:St) (s:Nat) (e:Ev):Qt N D (D.dH s e):=by
 unfold St.dH
 split
 . exact Qt.refl N D
 . exact (Qt.bK D s _).trans (Qt.event _ _)
theorem Qt.finish (D:St) (s:Nat) (r:oZ):Qt N D (D.finish s r):=Qt.aK D s _
theorem yc:¬ Pl N 0:=by unfold Pl;omega
theorem Au {s:Nat} (h:s<8):¬ Pl N (1+s):=by unfold Pl;omega
theorem pQ {id:Nat}:¬ Pl N (73+N*3+id):=by unfold Pl;omega
theorem kC {l w:Nat} (hw:w<2):¬ Pl N (af l w):=by unfold Pl af;omega
theorem Qt.dx (hs:D.aF=N) (w:Nat):Qt N D (D.dx w):=by
 unfold St.dx;refine Qt.cB ?_;have:D.place (aZ w)=73+N*3+aZ w:=by unfold St.place;rw[hs]
 rw[this];exact pQ
end
def IB (O:Nat->Nat) (i v:Nat):Nat->Nat:=fun j=>if j=i then v else O j
def Qr (L:Nat->List Nat) (k:Nat) (v:List Nat):Nat->List Nat:=fun j=>if j=k then v else L j
theorem mg (O:Nat->Nat) (i v:Nat):IB O i v i=v:=aV rfl
theorem iD {O:Nat->Nat} {i v j:Nat} (h:¬ j=i):IB O i v j=O j:=aR h
theorem kN (L:Nat->List Nat) (k:Nat) (v:List Nat):Qr L k v k=v:=aV rfl
theorem rZ {L:Nat->List Nat} {k:Nat} {v:List Nat} {j:Nat} (h:¬ j=k):Qr L k v j=L j:=aR h
theorem Mg:∀ (N:Nat) (l:List Nat),l.Nodup->(∀ x∈l,x<N)->l.length<=N:=by
 intro N
 induction N with
 |zero=>
  intro l hn h
  cases l with
  |nil=>exact zr _
  |cons x l=>exact absurd (h x nK) (by omega)
 |succ N ih=>
  intro l hn h;have h1:(l.erase N).length<=N:=by
   refine ih _ (hn.erase N) (fun x hx=>?_);rw[hn.mem_erase_iff] at hx;have:=h x hx.2;have:=hx.1;omega
  by_cases hm:N∈l
  . rw[List.length_erase_of_mem hm] at h1;omega
  . rw[List.erase_of_not_mem hm] at h1;omega
theorem zl {i tag:Nat} (h:i<131071):ag (rO i tag)=i:=by unfold ag rO;omega
section
variable {N Lm n:Nat} {D τ υ:St} {L:Nat->List Nat} {O:Nat->Nat}
theorem CS.same (h:CS N D L O) (ew:∀ i,τ.word i=D.word i) (ec:τ.cut=D.cut) (es:τ.sw=D.sw) (fr:∀ i∈τ.free,O i=0) (ul:τ.listed=false->∀ i,O i=0):CS N τ L O:=by
 refine⟨fun F Z=>?_,h.nd,h.lo,by rw[ec];exact h.ct,by rw[ec];exact h.cn,fr,ul,fun x hx ho=>?_⟩
 . rw[ew];exact (h.ch F Z).kQ (fun _ _=>ew _)
 . rw[es] at hx;exact (h.sw x hx ho).kQ (fun _ _ _ _=>ew _) ho
theorem CS.list (h:CS N D L O):CS N D.list L O:=by
 unfold St.list
 split
 . exact h
 . rename_i hl
   have hl':D.listed=false:=by simpa using hl
   exact h.same (fun _=>rfl) rfl rfl (fun i _=>h.ul hl' i) (fun e=>(by cases e))
theorem CS.hand (h:CS N D L O) {i v:Nat} (h1:O i=0∨64<O i) (h2:O i≠200) (h3:i∈D.free->v=0) (h4:D.listed=true):CS N D L (IB O i v):=by
 refine⟨h.ch,h.nd,fun F Z l hl=>?_,fun p hp=>?_,h.cn,fun j hj=>?_,fun e=>(by rw[h4] at e;cases e),h.sw⟩
 . obtain⟨a,b⟩:=h.lo F Z l hl
   exact⟨a,(iD (by intro e;rw[e] at b;omega)).trans b⟩
 . obtain⟨a,b⟩:=h.ct p hp
   exact⟨a,(iD (by intro e;rw[e] at b;exact h2 b)).trans b⟩
 . by_cases e:j=i
   . subst e;rw[mg];exact h3 hj
   . rw[iD e];exact h.fr j hj
theorem yf (D:St):D.take.1.words=D.words:=by
 have e:D.list.words=D.words:=by unfold St.list;split<;>rfl
 unfold St.take;simp only
 split<;>exact e
theorem CS.take (h:CS N D L O) (hs:Sh N Lm n D) (v:Nat):(D.take.2=none->CS N D.take.1 L O)∧∀ l,D.take.2=some l->O (ag l)=0∧CS N D.take.1 L (IB O (ag l) v):=by
 have hl:=h.list;have hsl:=hs.list;unfold St.take;simp only
 split
 . exact⟨fun _=>hl,fun l e=>by cases e⟩
 . rename_i i hi
   have hmem:i∈D.list.free:=List.mem_of_getLast? hi;have hfr:=hsl.bO.fr i hmem;have hsplit:D.list.free=D.list.free.dropLast++[i]:=by
    have hne:D.list.free≠[]:=by intro e;rw[e] at hi;cases hi
    have h1:=List.dropLast_concat_getLast hne;have h2:D.list.free.getLast hne=i:=by
     rw[List.getLast?_eq_some_getLast hne] at hi;exact zj hi
    rw[h2] at h1;exact h1.symm
   have hnd:=hsl.bO.nd;rw[hsplit,List.nodup_append] at hnd;refine⟨fun e=>(by cases e),fun l e=>?_⟩;obtain rfl:=zj e;have hsi:ag (D.list.jH i)=i:=zl (by have:=hfr.1;have:=hs.n1;omega);rw[hsi];have h0:=hl.fr i hmem;refine⟨h0,?_⟩;have hl2:CS N {D.list with free:=D.list.free.dropLast,tags:=D.list.tags.set i ((D.list.tags.getD i (0,false)).1,true)} L O:=
    hl.same (fun _=>rfl) rfl rfl (fun j hj=>hl.fr j (by rw[hsplit];exact List.mem_append_left _ hj)) hl.ul
   exact hl2.hand (.inl h0) (by omega) (fun hf=>absurd rfl (hnd.2.2 i hf i (by simp))) (nW D)
theorem lu (D:St) (l:Nat):(D.give l).words=D.words:=by
 unfold St.give
 split
 . simp only;split<;>rfl
 . rfl
theorem CS.give (h:CS N D L O) {G:Nat} (h1:64<O (ag G)) (h2:O (ag G)≠200) (hl:D.listed=true):CS N (D.give G) L (IB O (ag G) 0):=by
 have h0:=h.hand (v:=0) (.inr h1) h2 (fun _=>rfl) hl;unfold St.give
 split
 . simp only
   split
   . exact h0.same (fun _=>rfl) rfl rfl h0.fr h0.ul
   . refine h0.same (fun _=>rfl) rfl rfl (fun i hi=>?_) h0.ul
     change i∈D.free++[ag G] at hi;rw[List.mem_append] at hi
     rcases hi with hi|hi
     . exact h0.fr i hi
     . simp at hi;subst hi;exact mg O _ 0
 . exact h0
theorem oQ {l l':Nat} (h:¬ ag l=ag l'):¬ af l 2=af l' 2:=by unfold af;omega
theorem CS.next (h:CS N D L O) {G v:Nat} (h1:O (ag G)=0∨64<O (ag G)):CS N (D.put (af G 2) v) L O:=by
 have hw:∀ F,F<64->∀ l∈L F,(D.put (af G 2) v).word (af l 2)=D.word (af l 2):=fun F Z l hl=>by
  rw[bZ,aR];rintro ⟨e,-⟩;have hb:=(h.lo F Z l hl).2;refine oQ (fun e2=>?_) e;rw[e2] at hb;omega
 refine⟨fun F Z=>?_,h.nd,h.lo,h.ct,h.cn,h.fr,h.ul,fun x hx ho=>(h.sw x hx ho).kQ hw ho⟩;rw[bZ,aR (by rintro ⟨e,-⟩;unfold af at e;omega)];exact (h.ch F Z).kQ (hw F Z)
theorem GH.mono {L':Nat->List Nat} (hm:∀ F,F<64->∀ l∈L F,l∈L' F) {x:S} (hx:Gy N x) (h:GH D L x):GH D L' x:=by
 cases x with
 |visit F ak G=>exact⟨hm F (by have:=hx.1;omega) _ h.1,fun ha=>⟨hm F (by have:=hx.1;omega) _ (h.2 ha).1,(h.2 ha).2⟩⟩
 |maker F ak G id=>exact⟨hm F (by have:=hx.1;omega) _ h.1,fun ha=>⟨hm F (by have:=hx.1;omega) _ (h.2 ha).1,(h.2 ha).2⟩⟩
 |dD F ak G b=>exact⟨hm F (by have:=hx.1;omega) _ h.1,fun ha=>⟨hm F (by have:=hx.1;omega) _ (h.2 ha).1,(h.2 ha).2⟩⟩
 |unlink F ak G=>exact⟨hm F (by have:=hx.1;omega) _ h.1,fun ha=>⟨hm F (by have:=hx.1;omega) _ (h.2 ha).1,(h.2 ha).2⟩⟩
 |cut F ak G next=>exact⟨hm F (by have:=hx.1;omega) _ h.1,fun ha=>⟨hm F (by have:=hx.1;omega) _ (h.2.1 ha).1,(h.2.1 ha).2⟩,h.2.2⟩
 |on F G=>exact hm F (by have:=hx.1;omega) _ h
 |live s=>trivial
 |head F=>trivial
 |now=>trivial
theorem CS.push (h:CS N D L O) {F head G:Nat} (Z:F<64) (hl:LK N G) (h1:64<O (ag G)) (h2:O (ag G)≠200) (hw:D.word (af G 2)=head) (hh:D.word (9+F)=head) (hlen:9+F<D.words.length) (hls:D.listed=true):
 CS N (D.put (9+F) G) (Qr L F (G::L F)) (IB O (ag G) (F+1)):=by
 have Jd:∀ l,(D.put (9+F) G).word (af l 2)=D.word (af l 2):=fun l=>by
  rw[bZ,aR];rintro ⟨e,-⟩;unfold af at e;omega
 have hno:∀ k,k<64->∀ l∈L k,¬ ag l=ag G:=fun k hk' l hl' e=>by
  have:=(h.lo k hk' l hl').2;rw[e] at this;omega
 refine⟨fun k hk'=>?_,fun k hk'=>?_,fun k hk' l hl'=>?_,fun p hp=>?_,h.cn,fun i hi=>?_,fun e=>(by rw[show D.listed=false from e] at hls;cases hls),fun x hx ho=>?_⟩
 . by_cases e:k=F
   . subst e
     rw[kN,bZ,aV ⟨rfl,hlen⟩];refine⟨rfl,hl.ne,?_⟩;rw[Jd,hw,<-hh];exact (h.ch k hk').kQ (fun l _=>Jd l)
   . rw[rZ e,bZ,aR (by omega)]
     exact (h.ch k hk').kQ (fun l _=>Jd l)
 . by_cases e:k=F
   . subst e
     rw[kN,List.map_cons,List.nodup_cons];refine⟨fun hm=>?_,h.nd k hk'⟩;obtain⟨l,hl',e⟩:=List.mem_map.1 hm;exact hno k hk' l hl' e
   . rw[rZ e];exact h.nd k hk'
 . by_cases e:k=F
   . subst e
     rw[kN] at hl'
     rcases List.mem_cons.1 hl' with rfl|hl'
     . exact⟨hl,mg _ _ _⟩
     . exact⟨(h.lo k hk' l hl').1,(iD (hno k hk' l hl')).trans (h.lo k hk' l hl').2⟩
   . rw[rZ e] at hl'
     exact⟨(h.lo k hk' l hl').1,(iD (hno k hk' l hl')).trans (h.lo k hk' l hl').2⟩
 . obtain⟨a,b⟩:=h.ct p hp
   exact⟨a,(iD (by intro e;rw[e] at b;exact h2 b)).trans b⟩
 . have:=h.fr i hi
   rw[iD (by rintro rfl;omega)];exact this
 . refine GH.mono (L:=L) (fun k hk' l hl'=>?_) ho ((h.sw x hx ho).kQ (fun k hk' l _=>Jd l) ho)
   by_cases e:k=F
   . subst e;rw[kN];exact qg _ hl'
   . rw[rZ e];exact hl'
theorem fE.split {a:Nat}:∀ {ls:List Nat} {h:Nat},fE D h ls->a∈ls->∃ pre post,ls=pre++a::post∧fE D (D.word (af a 2)) post:=by
 intro ls
 induction ls with
 |nil=>intro h _ ha;cases ha
 |cons l ls ih=>
  intro h hc ha
  by_cases e:a=l
  . subst e;exact⟨[],ls,rfl,hc.2.2⟩
  . obtain⟨pre,post,h1,h2⟩:=ih hc.2.2 ((List.mem_cons.1 ha).resolve_left e)
    exact⟨l::pre,post,by rw[h1];rfl,h2⟩
theorem fE.next {h l:Nat} {ls:List Nat} (hc:fE D h ls) (hl:l∈ls) (hn:D.word (af l 2)≠0):D.word (af l 2)∈ls:=by
 obtain⟨pre,post,rfl,h2⟩:=hc.split hl
 cases post with
 |nil=>exact absurd h2 hn
 |cons b post=>rw[h2.1];simp
theorem fE.first {h:Nat} {ls:List Nat} (hc:fE D h ls) (hn:h≠0):h∈ls:=by
 cases ls with
 |nil=>exact absurd hc hn
 |cons l ls=>rw[hc.1];exact nK
def Path (N:Nat) (D:St) (O:Nat->Nat) (q l:Nat):Prop:=∃ ls,fE D l ls∧∀ x∈ls,LK N x∧((1<=O (ag x)∧O (ag x)<=64)∨(O (ag x)=200∧∀ p∈D.cut,ag p.1=ag x->q<=p.2))
theorem Path.tail {q l:Nat} (h:Path N D O q l) (hl:l≠0):Path N D O q (D.word (af l 2)):=by
 obtain⟨ls,h1,h2⟩:=h
 cases ls with
 |nil=>exact absurd h1 hl
 |cons a ls=>obtain⟨e1,e2,e3⟩:=h1;subst e1;exact⟨ls,e3,fun x hx=>h2 x (qg _ hx)⟩
theorem Path.tq {q l:Nat} {O':Nat->Nat} (h:Path N D O q l) (ho:∀ i,(1<=O i∧O i<=64)∨O i=200->O' i=O i) (hw:∀ x,LK N x->(1<=O (ag x)∧O (ag x)<=64)∨O (ag x)=200->τ.word (af x 2)=D.word (af x 2)) (hc:τ.cut=D.cut):Path N τ O' q l:=by
 obtain⟨ls,h1,h2⟩:=h;refine⟨ls,h1.kQ (fun x hx=>hw x (h2 x hx).1 ((h2 x hx).2.imp id (·.1))),fun x hx=>?_⟩;obtain⟨a,b⟩:=h2 x hx;refine⟨a,?_⟩;rw[ho _ (b.imp id (·.1)),hc];exact b
theorem Path.quiet {q l:Nat} (h:Path N D O q l) (qt:Qt N D τ):Path N τ O q l:=h.tq (fun _ _=>rfl) (fun x hx _=>qt.w _ (Pl.next hx)) qt.cut
theorem CS.path (h:CS N D L O) {F:Nat} (Z:F<64) (q:Nat):Path N D O q (D.word (9+F)):=
 ⟨L F,h.ch F Z,fun x hx=>⟨(h.lo F Z x hx).1,.inl (by have:=(h.lo F Z x hx).2;omega)⟩⟩
theorem Path.Mh (h:CS N D L O) {F G next sq q l:Nat} (Z:F<64) (hlk:G∈L F) (hn:D.word (af G 2)=next) (hq:q<=sq)
 (hw:∀ x,LK N x->τ.word (af x 2)=D.word (af x 2)∨(D.word (af x 2)=G∧τ.word (af x 2)=next)) (hc:τ.cut=D.cut++[(G,sq)]) (hp:Path N D O q l):Path N τ (IB O (ag G) 200) q l:=by
 obtain⟨hll,hlo⟩:=h.lo F Z G hlk;obtain⟨ls,h1,h2⟩:=hp;have main:∀ (n:Nat) (ls:List Nat),ls.length<=n->∀ l,fE D l ls->(∀ x∈ls,LK N x)->∃ ls',fE τ l ls'∧∀ x∈ls',x∈ls:=by
  intro n
  induction n with
  |zero=>
   intro ls hl l hc _
   cases ls with
   |nil=>exact⟨[],hc,fun x hx=>hx⟩
   |cons a b=>simp at hl
  |succ n ih=>
   intro ls hl l hc Z
   cases ls with
   |nil=>exact⟨[],hc,fun x hx=>hx⟩
   |cons a b=>
    obtain⟨e1,e2,e3⟩:=hc;subst e1
    rcases hw l (Z l nK) with e|⟨e,e'⟩
    . obtain⟨ls',g1,g2⟩:=ih b (by simp at hl;omega) _ e3 (fun x hx=>Z x (qg _ hx))
      exact ⟨l :: ls', ⟨rfl, e2, by rw [e]; exact g1⟩, fun x hx => by
        rcases List.mem_cons.1 hx with rfl|hx
        . exact nK
        . exact qg _ (g2 x hx)⟩
    . rw[e] at e3
      cases b with
      |nil=>exact absurd e3 hll.ne
      |cons a2 b2=>
       obtain⟨f1,f2,f3⟩:=e3;subst f1;rw[hn] at f3;obtain⟨ls',g1,g2⟩:=ih b2 (by simp at hl;omega) _ f3 (fun x hx=>Z x (qg _ (qg _ hx)))
       exact ⟨l :: ls', ⟨rfl, e2, by rw [e']; exact g1⟩, fun x hx => by
         rcases List.mem_cons.1 hx with rfl|hx
         . exact nK
         . exact qg _ (qg _ (g2 x hx))⟩
 obtain⟨ls',g1,g2⟩:=main _ ls (zr _) l h1 (fun x hx=>(h2 x hx).1);refine⟨ls',g1,fun x hx=>?_⟩;obtain⟨a,b⟩:=h2 x (g2 x hx);refine⟨a,?_⟩;rw[hc]
 by_cases e:ag x=ag G
 . rw[e,mg]
   refine .inr ⟨rfl,fun p hp he=>?_⟩
   rcases List.mem_append.1 hp with hp|hp
   . have:=(h.ct p hp).2
     rw[he,hlo] at this;omega
   . simp at hp;subst hp;exact hq
 . rw[iD e]
   refine b.imp id (fun b=>⟨b.1,fun p hp he=>?_⟩)
   rcases List.mem_append.1 hp with hp|hp
   . exact b.2 p hp he
   . simp at hp;subst hp;exact absurd he.symm e
end
section
variable {N Lm n:Nat} {D τ υ:St} {L:Nat->List Nat} {O:Nat->Nat}
theorem ve {pre post:List Nat} {a:Nat} (h:((pre++a::post).map ag).Nodup):((pre++post).map ag).Nodup∧¬ ag a∈(pre++post).map ag:=by
 rw[List.map_append,List.map_cons] at h;have hp:(pre.map ag++ag a::post.map ag).Perm (ag a::(pre.map ag++post.map ag)):=List.perm_middle;have h2:=hp.nodup_iff.1 h;rw[List.nodup_cons] at h2;rw[List.map_append];exact⟨h2.2,h2.1⟩
theorem CS.Mi (h:CS N D L O) {F i G next:Nat} (Z:F<64) {pre post:List Nat} (hL:L F=pre++G::post)
 (hi:Pl N i) (hlen:i<D.words.length) (hc:fE (D.put i next) ((D.put i next).word (9+F)) (pre++post))
 (ho:∀ k,k<64->¬ k=F->¬ 9+k=i∧∀ l∈L k,¬ af l 2=i) (sw:Option S) (seq:Nat)
 (hsw:∀ x,sw=some x->Gy N x->GH (D.put i next) (Qr L F (pre++post)) x):
 CS N {D.put i next with cut:=D.cut++[(G,seq)],cuts:=D.cuts+1,sw:=sw} (Qr L F (pre++post)) (IB O (ag G) 200):=by
 obtain⟨n1,n2⟩:=ve (a:=G) (by rw[<-hL];exact h.nd F Z);have hlk:=h.lo F Z G (by rw[hL];simp);have hno:∀ k,k<64->∀ l∈Qr L F (pre++post) k,l∈L k∧¬ ag l=ag G:=fun k hk' l hl'=>by
  by_cases e:k=F
  . subst e
    rw[kN] at hl';refine⟨by rw[hL];rcases List.mem_append.1 hl' with x|x<;>simp[x],fun e=>n2 (List.mem_map.2 ⟨l,hl',e⟩)⟩
  . rw[rZ e] at hl'
    refine⟨hl',fun e2=>?_⟩;have h1:=(h.lo k hk' l hl').2;rw[e2,hlk.2] at h1;omega
 refine⟨fun k hk'=>?_,fun k hk'=>?_,fun k hk' l hl'=>?_,fun p hp=>?_,?_,fun j hj=>?_,fun e=>?_,fun x hx hox=>?_⟩
 . by_cases e:k=F
   . subst e
     rw[kN];show fE _ ((D.put i next).word (9+k)) _;refine fE.kQ (D:=D.put i next) ?_ hc;intro _ _;rfl
   . obtain⟨o1,o2⟩:=ho k hk' e
     rw[rZ e];show fE _ ((D.put i next).word (9+k)) _;rw[bZ,aR (fun x=>o1 x.1)];refine (h.ch k hk').kQ (fun l hl'=>?_);show (D.put i next).word (af l 2)=_;rw[bZ,aR (fun x=>o2 l hl' x.1)]
 . by_cases e:k=F
   . subst e;rw[kN];exact n1
   . rw[rZ e];exact h.nd k hk'
 . obtain⟨a,b⟩:=hno k hk' l hl'
   exact⟨(h.lo k hk' l a).1,(iD b).trans (h.lo k hk' l a).2⟩
 . change p∈D.cut++[(G,seq)] at hp
   rcases List.mem_append.1 hp with hp|hp
   . obtain⟨a,b⟩:=h.ct p hp
     exact⟨a,(iD (by intro e;rw[e,hlk.2] at b;omega)).trans b⟩
   . simp at hp;subst hp;exact⟨hlk.1,mg _ _ _⟩
 . show ((D.cut++[(G,seq)]).map fun p=>ag p.1).Nodup
   rw[List.map_append,List.nodup_append];refine⟨h.cn,by simp,fun a ha b hb=>?_⟩;simp at hb;subst hb;rintro rfl;obtain⟨p,hp,e⟩:=List.mem_map.1 ha;have:=(h.ct p hp).2;rw[show ag p.1=ag G from e,hlk.2] at this;omega
 . have:=h.fr j hj
   rw[iD (by rintro rfl;rw[hlk.2] at this;omega)];exact this
 . have:=h.ul e (ag G)
   rw[hlk.2] at this;omega
 . exact (hsw x hx hox).kQ (fun _ _ _ _=>rfl) hox
theorem yg {F:Nat}:∀ x,mI F=some x->GH D L x:=by
 intro x hx;unfold mI at hx
 split at hx
 . cases hx
 . obtain rfl:=zj hx;trivial
theorem qY {F ak G:Nat} (h:G≠0->G∈L F∧(ak≠0->ak∈L F∧D.word (af ak 2)=G)):∀ x,iG F ak G=some x->GH D L x:=by
 intro x hx;unfold iG at hx
 split at hx
 . exact yg x hx
 . rename_i hl
   obtain rfl:=zj hx;exact h hl
theorem Er {s:Nat}:∀ x,nL s=some x->GH D L x:=by
 intro x hx;unfold nL at hx
 split at hx
 . exact yg x hx
 . obtain rfl:=zj hx;trivial
theorem CS.BP (h:CS N D L O) (ew:∀ i,τ.word i=D.word i) (ec:τ.cut=D.cut) (ef:τ.free=D.free) (el:τ.listed=D.listed) (hsw:∀ x,τ.sw=some x->GH D L x):CS N τ L O:=by
 refine⟨fun F Z=>?_,h.nd,h.lo,by rw[ec];exact h.ct,by rw[ec];exact h.cn,by rw[ef];exact h.fr,by rw[el];exact h.ul,fun x hx ho=>(hsw x hx).kQ (fun _ _ _ _=>ew _) ho⟩;rw[ew];exact (h.ch F Z).kQ (fun _ _=>ew _)
theorem CS.aG (h:CS N D L O) (hs:Sh N Lm n D) {x:S} (hx:Gy N x) (hw:GH D L x):∃ L' O',CS N (D.aG x).1 L' O'∧(∀ i,64<O i->O' i=O i)∧(∀ i,64<O i->(∀ l,ag l=i->(D.aG x).1.word (af l 2)=D.word (af l 2)))∧(∀ i,¬ Pl N i->(D.aG x).1.word i=D.word i)∧(∀ q l,q<=D.seq->Path N D O q l->Path N (D.aG x).1 O' q l):=by
 have hpq:∀ {τ:St},(∀ i,τ.word i=D.word i)->τ.cut=D.cut->∀ q l,q<=D.seq->Path N D O q l->Path N τ O q l:=fun ew ec q l _ hp=>hp.tq (fun _ _=>rfl) (fun _ _ _=>ew _) ec
 cases x with
 |now=>exact⟨L,O,h.BP (fun _=>rfl) rfl rfl rfl (fun x hx=>Er (s:=0) x hx),fun _ _=>rfl,fun _ _ _ _=>rfl,fun _ _=>rfl,hpq (fun _=>rfl) rfl⟩
 |live s=>exact⟨L,O,h.BP (fun _=>rfl) rfl rfl rfl (fun x hx=>Er (s:=s+1) x hx),fun _ _=>rfl,fun _ _ _ _=>rfl,fun _ _=>rfl,hpq (fun _=>rfl) rfl⟩
 |head F=>
  have Z:F<=63:=hx;exact⟨L,O,h.BP (fun _=>rfl) rfl rfl rfl (qY (fun hl=>⟨(h.ch F (by omega)).first hl,fun e=>absurd rfl e⟩)),fun _ _=>rfl,fun _ _ _ _=>rfl,fun _ _=>rfl,hpq (fun _=>rfl) rfl⟩
 |visit F ak G=>
  refine⟨L,O,h.BP (fun _=>rfl) rfl rfl rfl (fun x hx=>?_),fun _ _=>rfl,fun _ _ _ _=>rfl,fun _ _=>rfl,hpq (fun _=>rfl) rfl⟩;have hx':=(zj hx).symm
  split at hx'<;>(subst hx';exact hw)
 |maker F ak G id=>
  refine⟨L,O,h.BP (fun _=>rfl) rfl rfl rfl (fun x hx=>?_),fun _ _=>rfl,fun _ _ _ _=>rfl,fun _ _=>rfl,hpq (fun _=>rfl) rfl⟩;have hx':=(zj hx).symm
  split at hx'
  . subst hx';exact hw
  . subst hx';exact hw.1
 |dD F ak G b=>
  refine⟨L,O,h.BP (fun _=>rfl) rfl rfl rfl (fun x hx=>?_),fun _ _=>rfl,fun _ _ _ _=>rfl,fun _ _=>rfl,hpq (fun _=>rfl) rfl⟩;have hx':=(zj hx).symm
  split at hx'
  . subst hx';exact hw
  . subst hx';exact hw.1
 |on F G=>
  have Z:F<64:=by have:=hx.1;omega
  exact⟨L,O,h.BP (fun _=>rfl) rfl rfl rfl (qY (fun hl=>⟨(h.ch F Z).next hw hl,fun _=>⟨hw,rfl⟩⟩)),fun _ _=>rfl,fun _ _ _ _=>rfl,fun _ _=>rfl,hpq (fun _=>rfl) rfl⟩
 |unlink F ak G=>
  refine⟨L,O,h.BP (fun _=>rfl) rfl rfl rfl (fun x hx=>?_),fun _ _=>rfl,fun _ _ _ _=>rfl,fun _ _=>rfl,hpq (fun _=>rfl) rfl⟩;obtain rfl:=zj hx;exact⟨hw.1,hw.2,rfl⟩
 |cut F ak G next=>
  obtain⟨O5,ha,hl,hn⟩:=hx;have Z:F<64:=by omega
  obtain⟨Y,w2,w3⟩:=hw;obtain⟨pre,post,hL,hpost⟩:=(h.ch F Z).split Y;rw[w3] at hpost;have hnd:=h.nd F Z;simp only[St.aG]
  split
  . rename_i ha0
    obtain⟨a1,a2⟩:=w2 ha0;have hal:LK N ak:=(h.lo F Z ak a1).1;obtain⟨Mj,Qs,hL2,hc2⟩:=(h.ch F Z).split a1;rw[a2] at hc2;obtain⟨rG,rfl,hc3⟩:∃ rG,Qs=G::rG∧fE D next rG:=by
     cases Qs with
     |nil=>exact absurd hc2 hl.ne
     |cons b p=>obtain⟨e1,e2,e3⟩:=hc2;subst e1;rw[w3] at e3;exact⟨p,rfl,e3⟩
    have hlen:af ak 2<D.words.length:=by have:=hal.ag;rw[hs.nw];unfold af;omega
    have hoth:∀ k,k<64->¬ k=F->¬ 9+k=af ak 2∧∀ l∈L k,¬ af l 2=af ak 2:=fun k hk' e=>by
     refine⟨by unfold af;omega,fun l hl'=>oQ (fun e2=>?_)⟩;have o1:=(h.lo k hk' l hl').2;have o2:=(h.lo F Z ak a1).2;rw[e2,o2] at o1;omega
    have hL3:L F=(Mj++[ak])++G::rG:=by rw[hL2];simp
    have hda:∀ l∈L F,l≠ak->¬ ag l=ag ak:=fun l hl' hne e=>by
     have:=(ve (a:=ak) (by rw[<-hL2];exact hnd)).2;refine this (List.mem_map.2 ⟨l,?_,e⟩);rw[hL2] at hl'
     rcases List.mem_append.1 hl' with x|x
     . exact List.mem_append_left _ x
     . exact List.mem_append_right _ ((List.mem_cons.1 x).resolve_left hne)
    have hna:∀ l,l∈Mj∨l∈G::rG->¬ ag l=ag ak:=fun l hl' e=>by
     have:=(ve (a:=ak) (by rw[<-hL2];exact hnd)).2;exact this (List.mem_map.2 ⟨l,List.mem_append.2 hl',e⟩)
    have hc:fE (D.put (af ak 2) next) ((D.put (af ak 2) next).word (9+F)) ((Mj++[ak])++rG):=by
     rw[bZ,aR (by rintro ⟨e,-⟩;unfold af at e;omega)];have Xe:∀ (pre:List Nat) (h0:Nat),(∀ l∈pre,¬ ag l=ag ak)->fE D h0 (pre++ak::G::rG)->fE (D.put (af ak 2) next) h0 ((pre++[ak])++rG):=by
      intro pre
      induction pre with
      |nil=>
       intro h0 _ hc;refine⟨hc.1,hc.2.1,?_⟩;rw[bZ,aV ⟨rfl,hlen⟩];refine hc3.kQ (fun l hl'=>?_);rw[bZ,aR];rintro ⟨e,-⟩;exact oQ (hna l (.inr (qg _ hl'))) e
      |cons p pre ih=>
       intro h0 hp hc;refine⟨hc.1,hc.2.1,?_⟩;rw[bZ,aR (by rintro ⟨e,-⟩;exact oQ (hp p nK) e)];exact ih _ (fun l hl'=>hp l (qg _ hl')) hc.2.2
     have hch:=h.ch F Z;rw[hL2] at hch;exact Xe Mj _ (fun l hl'=>hna l (.inl hl')) hch
    have hap:¬ ag G=ag ak:=hna G (.inr nK);refine⟨Qr L F ((Mj++[ak])++rG),IB O (ag G) 200,h.Mi Z hL3 (Pl.next hal) hlen hc hoth _ D.seq (fun x hx hox=>?_),fun i hi=>iD (fun e=>?_),fun i hi l e=>?_,fun i hi=>?_,fun q l hq hp=>hp.Mh h Z Y w3 hq (fun x hx=>?_) rfl⟩
    . refine qY (fun hn0=>?_) x hx
      rw[kN];have hmem:next∈rG:=hc3.first hn0
      refine⟨List.mem_append_right _ hmem,fun _=>⟨by simp,?_⟩⟩;rw[bZ,aV ⟨rfl,hlen⟩]
    . rw[e,(h.lo F Z G Y).2] at hi;omega
    . show (D.put (af ak 2) next).word _=_
      rw[bZ,aR];rintro ⟨e2,-⟩;refine oQ (fun e3=>?_) e2;have:=(h.lo F Z ak a1).2;rw[<-e3,e] at this;omega
    . show (D.put (af ak 2) next).word _=_
      rw[bZ,aR];rintro ⟨rfl,-⟩;exact hi (Pl.next hal)
    . by_cases e:af x 2=af ak 2
      . exact .inr ⟨by rw[e];exact a2,by show (D.put (af ak 2) next).word _=_;rw[bZ,aV ⟨e,hlen⟩]⟩
      . exact .inl (by show (D.put (af ak 2) next).word _=_;rw[bZ,aR (fun e2=>e e2.1)])
  . rename_i ha0
    split
    . rename_i hh
      obtain⟨rest,ZQ,hcr⟩:∃ rest,L F=G::rest∧fE D next rest:=by
       have hch:=h.ch F Z;rw[hh] at hch
       cases hLk:L F with
       |nil=>rw[hLk] at hch;exact absurd hch hl.ne
       |cons b p=>rw[hLk] at hch;obtain⟨e1,e2,e3⟩:=hch;subst e1;rw[w3] at e3;exact⟨p,rfl,e3⟩
      have hlen:9+F<D.words.length:=by rw[hs.nw];omega
      have Jd:∀ l,(D.put (9+F) next).word (af l 2)=D.word (af l 2):=fun l=>by
       rw[bZ,aR];rintro ⟨e,-⟩;unfold af at e;omega
      have hc:fE (D.put (9+F) next) ((D.put (9+F) next).word (9+F)) ([]++rest):=by
       rw[bZ,aV ⟨rfl,hlen⟩];exact hcr.kQ (fun l _=>Jd l)
      have Xf:ak=0:=by
       by_cases e:ak=0
       . exact e
       . exact absurd e ha0
      refine⟨Qr L F ([]++rest),IB O (ag G) 200,h.Mi Z (pre:=[]) (by rw[ZQ];rfl) (Pl.head Z) hlen hc (fun k hk' e=>⟨by omega,fun l _=>by unfold af;omega⟩) _ D.seq (fun x hx hox=>?_),fun i hi=>iD (fun e=>?_),fun i hi l e=>Jd l,fun i hi=>?_,fun q l hq hp=>hp.Mh h Z Y w3 hq (fun x hx=>.inl (Jd x)) rfl⟩
      . refine qY (fun hn0=>?_) x hx
        rw[kN];exact⟨hcr.first hn0,fun e=>absurd Xf e⟩
      . rw[e,(h.lo F Z G Y).2] at hi;omega
      . show (D.put (9+F) next).word _=_
        rw[bZ,aR];rintro ⟨rfl,-⟩;exact hi (Pl.head Z)
    . exact⟨L,O,h.BP (fun _=>rfl) rfl rfl rfl (fun x hx=>yg (F:=F) x hx),fun _ _=>rfl,fun _ _ _ _=>rfl,fun _ _=>rfl,hpq (fun _=>rfl) rfl⟩
end
def Pv (N:Nat) (D:St) (O:Nat->Nat) (s q:Nat):K->Prop
 |.visit _ l|.older _ l|.maker _ l _|.ended _ l _|.gW _ l _ _|.seen _ l _=>Path N D O q l
 |.fresh l=>l≠0->O (ag l)=100+s
 |.next l _ a|.free l _ a|.dM l _ a _=>(l≠0->O (ag l)=100+s)∧Path N D O q a
 |.fB _ l _|.dZ _ l _|.push l _|.over l|.iq l _=>O (ag l)=100+s
 |.dL l head|.dQ l head=>O (ag l)=100+s∧D.word (af l 2)=head
 |.turns tl _=>∀ x∈tl,¬ Pl N x.at_
 |_=>True
def yh (k:K):Prop:=∀ N D O s q,Pv N D O s q k
structure Left (N s q:Nat) (D:St) (O:Nat->Nat) (τ:St) (ok:Option K) (C':Nat->List Nat) (O':Nat->Nat):Prop where
 cs:CS N τ C' O'
 pv:∀ k,ok=some k->Pv N τ O' s q k
 ot:∀ i,O i≠0->O i≠100+s->O' i=O i
 ow:∀ l,LK N l->O (ag l)≠0->O (ag l)≠100+s->τ.word (af l 2)=D.word (af l 2)
 oc:τ.cut=D.cut
def bG (N s q:Nat) (D:St) (O:Nat->Nat) (r:St×Option K):Prop:=∃ C' O',Left N s q D O r.1 r.2 C' O'
section
variable {N L n s q d:Nat} {D τ υ:St} {t:bL} {c:dN} {C:Nat->List Nat} {O:Nat->Nat}
theorem CS.listed (h:CS N D C O) {i:Nat} (hi:O i≠0):D.listed=true:=by
 cases e:D.listed with
 |true=>rfl
 |false=>exact absurd (h.ul e i) hi
theorem bG.quiet (h:CS N D C O) (qt:Qt N D τ) {ok:Option K} (Z:∀ k,ok=some k->Pv N τ O s q k):bG N s q D O (τ,ok):=
 ⟨C,O,h.quiet qt,Z,fun _ _ _=>rfl,fun l hl _ _=>qt.w _ (Pl.next hl),qt.cut⟩
theorem bG.lC (h:CS N D C O) (qt:Qt N D τ) {k:K} (Z:yh k):bG N s q D O (τ,some k):=bG.quiet h qt (fun k' e=>by obtain rfl:=zj e;exact Z _ _ _ _ _)
theorem bG.last (h:CS N D C O) (qt:Qt N D τ):bG N s q D O (τ,none):=bG.quiet h qt (fun k' e=>by cases e)
theorem bG.keep (h:CS N D C O) (qt:Qt N D τ) {k:K} (Z:Pv N τ O s q k):bG N s q D O (τ,some k):=bG.quiet h qt (fun k' e=>by obtain rfl:=zj e;exact Z)
theorem bG.pre (qt:Qt N D τ) {r:St×Option K} (h:bG N s q τ O r):bG N s q D O r:=by
 obtain⟨C',O',h1,h2,h3,h4,h5⟩:=h;exact⟨C',O',h1,h2,h3,fun l hl a b=>(h4 l hl a b).trans (qt.w _ (Pl.next hl)),h5.trans qt.cut⟩
theorem iA (r:oZ):yh (.fin r):=fun _ _ _ _ _=>trivial
theorem r9 (h:dJ):yh (.start h):=fun _ _ _ _ _=>trivial
theorem nI (e r:Nat):yh (.abort e r):=fun _ _ _ _ _=>trivial
theorem yj (t:bL) (i:Nat):yh (jJ t i):=by unfold jJ;split<;>exact fun _ _ _ _ _=>trivial
theorem vQ (t:bL) (i:Nat):yh (dG t i):=by
 unfold dG;simp only
 split
 . exact yj t 0
 . exact fun _ _ _ _ _=>trivial
theorem Mk (s:Nat):∀ (k:Nat) (τ:St) (F:Nat),Qt N τ (iE s k τ F).1∧yh (iE s k τ F).2:=by
 intro k
 induction k with
 |zero=>intro τ F;exact⟨Qt.refl N τ,iA _⟩
 |succ k ih=>
  intro τ F;unfold iE
  split
  . exact⟨Qt.refl N τ,iA _⟩
  . split
    . split
      . obtain⟨a,b⟩:=ih (τ.tell s F (τ.valueOf _)) (F+1)
        exact⟨(Qt.tell τ s F _).trans a,b⟩
      . exact ih τ (F+1)
    . exact⟨Qt.refl N τ,r9 _⟩
theorem BQ (s:Nat) (τ:St) (F:Nat):Qt N τ (τ.scan s F).1∧yh (τ.scan s F).2:=Mk s _ τ F
theorem vg (s:Nat) (τ:St) (h:dJ) (G:Nat):Qt N τ (τ.thn s h G).1∧yh (τ.thn s h G).2:=by
 unfold St.thn
 split
 . simp only
   split
   . exact⟨Qt.read τ s _ _ _,iA _⟩
   . exact⟨Qt.read τ s _ _ _,iA _⟩
 . rename_i F _
   simp only
   split
   . obtain⟨a,b⟩:=BQ (N:=N) s (τ.read s F G false) (F+1)
     exact⟨(Qt.read τ s _ _ _).trans a,b⟩
   . obtain⟨a,b⟩:=BQ (N:=N) s ((τ.read s F G false).tell s F ((τ.read s F G false).valueOf G)) (F+1)
     exact⟨((Qt.read τ s _ _ _).trans (Qt.tell _ s _ _)).trans a,b⟩
 . simp only
   split
   . exact⟨Qt.read τ s _ _ _,iA _⟩
   . split
     . exact⟨Qt.read τ s _ _ _,iA _⟩
     . split
       . exact⟨Qt.refl N τ,fun _ _ _ _ _=>fun e=>absurd rfl e⟩
       . exact⟨Qt.refl N τ,fun _ _ _ _ _=>trivial⟩
 . try simp only
   split
   . exact⟨Qt.refl N τ,nI _ _⟩
   . exact⟨Qt.refl N τ,vQ _ _⟩
theorem Es (s:Nat) (τ:St) (h:dJ) (G:Nat) (hp:Path N τ O q G):Qt N τ (τ.visit s h G).1∧Pv N (τ.visit s h G).1 O s q (τ.visit s h G).2:=by
 unfold St.visit
 split
 . exact⟨(vg s τ h 0).1,(vg (N:=N) s τ h 0).2 _ _ _ _ _⟩
 . exact⟨Qt.refl N τ,hp⟩
theorem IC (s:Nat) (τ:St) (h:dJ) (G mb:Nat) (hp:Path N τ O q G):Qt N τ (τ.seen s h G mb).1∧Pv N (τ.seen s h G mb).1 O s q (τ.seen s h G mb).2:=by
 unfold St.seen
 split
 . exact⟨(vg s τ h G).1,(vg (N:=N) s τ h G).2 _ _ _ _ _⟩
 . exact⟨Qt.refl N τ,hp⟩
theorem JU (s:Nat) (τ:St) (h:dJ) (G w:Nat) (hp:Path N τ O q G):Pv N τ O s q (τ.kG s h G w):=by
 unfold St.kG
 split
 . exact hp
 . split<;>exact hp
theorem Ml (D:St):D.list.cut=D.cut:=by unfold St.list;split<;>rfl
theorem Et (D:St) {bB:St} {o:Option Nat} (e:D.take=(bB,o)):bB.cut=D.cut:=by
 have:D.take.1.cut=D.cut:=by
  unfold St.take;simp only
  split<;>exact Ml D
 rw[e] at this;exact this
theorem Mm (D:St) (l:Nat):(D.give l).cut=D.cut:=(BK D l).2.2.1
theorem BR (h:CS N D C O) (hs:Sh N L n D) (x:Bool) {G head:Nat} (hl:G≠0->O (ag G)=100+s):bG N s q D O ((D.slot s x G head).1,some (D.slot s x G head).2):=by
 unfold St.slot
 by_cases h0:G=0
 . rw[aV h0]
   obtain⟨t1,t2⟩:=h.take hs (100+s);have hw:∀ i,D.take.1.word i=D.word i:=fun i=>by unfold St.word;rw[yf]
   cases e:D.take with
   |mk bB o=>
    rw[e] at t1 t2 hw
    cases o with
    |none=>exact⟨C,O,t1 rfl,fun k e=>by obtain rfl:=zj e;trivial,fun _ _ _=>rfl,fun l _ _ _=>hw _,Et D e⟩
    |some l=>
     obtain⟨z,c2⟩:=t2 l rfl;refine⟨C,IB O (ag l) (100+s),c2.quiet (Qt.vals _ _),fun k e=>?_,fun i hi _=>iD (by rintro rfl;omega),fun l _ _ _=>hw _,(Et D e :)⟩;obtain rfl:=zj e;exact mg _ _ _
 . rw[aR h0]
   exact bG.keep h (Qt.vals _ _) (hl h0)
theorem Eu (h:CS N D C O) (hs:Sh N L n D) {G head at_:Nat} (hl:G≠0->O (ag G)=100+s) (hp:Path N D O q at_):bG N s q D O ((D.jd s G head at_).1,some (D.jd s G head at_).2):=by
 unfold St.jd
 split
 . exact BR h hs false hl
 . exact bG.keep h (Qt.refl N D) ⟨hl,hp⟩
theorem IE (h:CS N D C O) {G:Nat} (s8:s<8) (hl:G≠0->O (ag G)=100+s):bG N s q D O ((D.lost G).1,some (D.lost G).2):=by
 unfold St.lost;simp only
 split
 . rename_i h0
   have e:=hl h0;refine⟨C,IB O (ag G) 0,h.give (by omega) (by omega) (h.listed (i:=ag G) (by omega)),fun k e=>by obtain rfl:=zj e;trivial,fun i hi hne=>iD (by rintro rfl;exact hne e),fun l _ _ _=>by unfold St.word;rw[lu],Mm D G⟩
 . exact bG.lC h (Qt.refl N D) (nI _ _)
theorem yl (h:CS N D C O) (hs:Sh N L n D) (s8:s<8) {G head:Nat} (hl:LK N G) (ho:O (ag G)=100+s) {k:K} (Z:∀ τ O,O (ag G)=100+s->τ.word (af G 2)=head->Pv N τ O s q k):bG N s q D O (D.put (af G 2) head,some k):=by
 have hlen:af G 2<D.words.length:=by have:=hl.ag;rw[hs.nw];unfold af;omega
 refine⟨C,O,h.next (.inr (by omega)),fun k' e=>?_,fun _ _ _=>rfl,fun l _ _ hne=>?_,rfl⟩
 . obtain rfl:=zj e
   exact Z _ _ ho (by show (D.put _ _).word _=_;rw[bZ,aV ⟨rfl,hlen⟩])
 . show (D.put _ _).word _=_
   rw[bZ,aR];rintro ⟨e,-⟩;exact oQ (fun e2=>hne (by rw[e2];exact ho)) e
theorem ym (h:CS N D C O) (hs:Sh N L n D) (s8:s<8) {F G head:Nat} (hkey:F<64) (hl:LK N G) (ho:O (ag G)=100+s) (hw:D.word (af G 2)=head) (hh:D.word (9+F)=head) {ok:Option K} (Z:∀ k,ok=some k->yh k) (qt:Qt N (D.put (9+F) G) τ):bG N s q D O (τ,ok):=by
 have hlen:9+F<D.words.length:=by rw[hs.nw];omega
 have h2:=h.push hkey hl (by omega) (by omega) hw hh hlen (h.listed (i:=ag G) (by omega));refine⟨_,_,h2.quiet qt,fun k e=>Z k e _ _ _ _ _,fun i hi hne=>iD (by rintro rfl;exact hne ho),fun l hl' _ _=>?_,qt.cut⟩;refine (qt.w _ (Pl.next hl')).trans ?_;rw[bZ,aR];rintro ⟨e,-⟩;unfold af at e;omega
theorem JV (D:St) (t:bL):∀ x∈eY D t,¬ Pl N x.at_:=by
 intro x hx;unfold eY at hx;rw[List.mem_flatMap] at hx;obtain⟨F,_,hx⟩:=hx;simp only at hx;rw[List.mem_append] at hx
 rcases hx with hx|hx
 . split at hx
   . rcases List.mem_cons.1 hx with rfl|hx
     . exact kC (by omega)
     . split at hx
       . cases hx
       . simp at hx;subst hx;exact kC (by omega)
   . cases hx
 . split at hx
   . simp at hx;subst hx;exact kC (by omega)
   . cases hx
theorem Mo (D:St) (t:bL):∀ x∈fV D t,¬ Pl N x.at_:=by
 intro x hx;unfold fV at hx;rw[List.mem_flatMap] at hx;obtain⟨F,_,hx⟩:=hx;simp only at hx
 split at hx
 . simp at hx;subst hx;exact kC (by omega)
 . cases hx
end
section
variable {N L n s cq d:Nat} {D τ υ:St} {t:bL} {c:dN} {C:Nat->List Nat} {O:Nat->Nat}
theorem bG.two (h:CS N D C O) (q:Qt N D τ) {r:St×K} (a:Qt N τ r.1∧Pv N r.1 O s cq r.2):bG N s cq D O (r.1,some r.2):=bG.keep h (q.trans a.1) a.2
theorem bG.RU (h:CS N D C O) (q:Qt N D τ) {r:St×K} (a:Qt N τ r.1∧yh r.2):bG N s cq D O (r.1,some r.2):=bG.lC h (q.trans a.1) a.2
set_option maxHeartbeats 1600000 in
theorem RV (m:Mid N L n s 0 D D t c) {k:K} (Z:xU N L t c k) (h:CS N D C O) (hp:Pv N D O s cq k):bG N s cq D O (D.run s k):=by
 have ec:=m.ec;have et:=m.et;have hs:=m.sh;have s8:=m.s8;have ht:CS N D.tick C O:=h.quiet (Qt.tick D);have qt:=Qt.tick (N:=N) D;have hst:Sh N L n D.tick:=hs.tick
 cases k with
 |fin r=>exact bG.last h (Qt.finish D s r)
 |start hh=>exact bG.two h qt (Es s D.tick hh _ (ht.path Z.1 cq))
 |visit hh G=>exact bG.keep h qt (JU s _ hh G _ (Path.quiet hp qt))
 |older hh G=>exact bG.two h qt (Es s D.tick hh _ ((Path.tail hp Z.2.ne).quiet qt))
 |maker hh G id=>
  have hp2:=Path.quiet hp qt;simp only[St.run]
  split
  . exact bG.keep h qt hp2
  split<;>exact bG.keep h qt hp2
 |ended hh G mb=>
  have hp2:=Path.quiet hp qt;simp only[St.run]
  split
  . exact bG.keep h qt hp2
  split
  . exact bG.two h qt (IC s D.tick hh G mb hp2)
  . exact bG.keep h qt hp2
 |gW hh G mb id=>
  have hp2:=Path.quiet hp qt;simp only[St.run]
  split
  . exact bG.two h qt (IC s D.tick hh G mb hp2)
  split
  . exact bG.keep h (qt.trans (Qt.bind _ s id)) (hp2.quiet (Qt.bind _ s id))
  . exact bG.keep h qt hp2
 |seen hh G mb=>
  simp only[St.run]
  split
  . exact bG.lC h qt (fun _ _ _ _ _=>trivial)
  . split
    . exact bG.RU h (qt.trans (Qt.bind _ s mb)) (vg s _ hh G)
    . exact bG.RU h qt (vg s _ hh G)
 |again en=>
  simp only[St.run];have q1:∀ a b,Qt N D ((D.put (af a 1) b)):=fun a b=>Qt.put (kC (by omega))
  split
  . exact bG.lC h (((q1 _ _).trans (Qt.bK _ s _)).trans (Qt.vals _ _)) (iA _)
  . exact bG.lC h ((q1 _ _).trans (Qt.bK _ s _)) (iA _)
 |own G=>
  simp only[St.run]
  split
  . exact bG.lC h qt (fun _ _ _ _ _=>trivial)
  split<;>exact bG.lC h qt (fun _ _ _ _ _=>trivial)
 |ib G w id=>
  simp only[St.run]
  split<;>exact bG.lC h qt (fun _ _ _ _ _=>trivial)
 |claim G w=>
  simp only[St.run];have q1:Qt N D (D.cB (af G 1) w (mine (D.t s))):=Qt.cB (kC (by omega));have hs1:Sh N L n (D.cB (af G 1) w (mine (D.t s))):=by
   rw[et];exact hs.cB (iT (w:=1) Z.1 (by omega) (nY m.t1) (nX m.t1))
  split
  . exact bG.lC h q1 (fun _ _ _ _ _=>trivial)
  . split
    . exact bG.lC h (q1.trans (Qt.bK _ s _)) (iA _)
    . have q2:=q1.trans (Qt.bK (D.cB (af G 1) w (mine (D.t s))) s {(D.cB (af G 1) w (mine (D.t s))).t s with cells:=(((D.cB (af G 1) w (mine (D.t s))).c s).op.F,(⟨0,G,false⟩:kP))::((D.cB (af G 1) w (mine (D.t s))).t s).cells,keys:=((D.cB (af G 1) w (mine (D.t s))).t s).keys++[((D.cB (af G 1) w (mine (D.t s))).c s).op.F]})
      exact bG.pre q2 (BR (h.quiet q2) (hs1.bK s _) true (fun e=>absurd rfl e))
 |fresh G=>
  simp only[St.run,ec];exact bG.pre qt (Eu ht hst hp (ht.path Z.2.2 cq))
 |next G head at_=>
  simp only[St.run];exact bG.pre qt (Eu ht hst hp.1 ((Path.tail hp.2 Z.2.2.1.ne).quiet qt))
 |free G head at_=>
  simp only[St.run]
  split
  . exact bG.keep h qt ⟨hp.1,hp.2.quiet qt⟩
  split
  . exact bG.pre qt (IE ht s8 hp.1)
  . exact bG.keep h qt ⟨hp.1,hp.2.quiet qt⟩
 |dM G head at_ id=>
  simp only[St.run]
  split
  . exact bG.keep h qt ⟨hp.1,hp.2.quiet qt⟩
  . exact bG.pre qt (IE ht s8 hp.1)
 |fB x G head=>exact bG.keep h (Qt.put (kC (by omega))) hp
 |dZ x G head=>
  have q1:Qt N D (D.put (af G 1) ever):=Qt.put (kC (by omega))
  cases x with
  |true=>exact bG.keep h q1 hp
  |false=>exact bG.keep h q1 hp
 |push G head=>exact yl h hs s8 Z.1 hp (fun τ O a b=>⟨a,b⟩)
 |iq G head=>exact yl h hs s8 Z.1 hp (fun τ O a b=>⟨a,b⟩)
 |dL G head=>
  obtain⟨hl,_,_,hkk⟩:=Z;obtain⟨p1,p2⟩:=hp;simp only[St.run,ec]
  split
  . rename_i hne
    have e:D.cB (9+c.op.F) head G=D.tick:=by unfold St.cB;rw[aR hne]
    rw[e];exact bG.keep h qt (fun _=>p1)
  . rename_i hne
    have hh:D.word (9+c.op.F)=head:=by
     by_cases e:D.word (9+c.op.F)=head
     . exact e
     . exact absurd e hne
    have e:D.cB (9+c.op.F) head G=D.put (9+c.op.F) G:=by unfold St.cB;rw[aV hh]
    rw[e];exact ym h hs s8 hkk hl p1 p2 hh (fun k e=>by obtain rfl:=zj e;exact iA _) (Qt.bK _ s _)
 |over G=>exact bG.keep h qt hp
 |dQ G head=>
  obtain⟨hl,_,_,hkk⟩:=Z;obtain⟨p1,p2⟩:=hp;simp only[St.run,ec]
  split
  . rename_i hne
    have e:D.cB (9+c.op.F) head G=D.tick:=by unfold St.cB;rw[aR hne]
    rw[e];exact bG.keep h qt p1
  . rename_i hne
    have hh:D.word (9+c.op.F)=head:=by
     by_cases e:D.word (9+c.op.F)=head
     . exact e
     . exact absurd e hne
    have e:D.cB (9+c.op.F) head G=D.put (9+c.op.F) G:=by unfold St.cB;rw[aV hh]
    rw[e];exact ym h hs s8 hkk hl p1 p2 hh (fun k e=>by obtain rfl:=zj e;exact iA _) (Qt.bK _ s _)
 |draw=>
  simp only[St.run]
  split
  . exact bG.lC h qt (nI _ _)
  split<;>exact bG.lC h qt (fun _ _ _ _ _=>trivial)
 |ed w now=>exact bG.lC h (Qt.dx hs.sl w) (fun _ _ _ _ _=>trivial)
 |turn w now=>
  simp only[St.run];have q1:∀ a b,Qt N D (D.cB 0 a b):=fun a b=>Qt.cB yc
  split
  . exact bG.lC h (q1 _ _) (fun _ _ _ _ _=>trivial)
  . exact bG.lC h (((q1 _ _).trans (Qt.bK _ s _)).trans (Qt.event _ _)) (fun _ _ _ _ _=>trivial)
 |dR=>exact bG.lC h (Qt.dx hs.sl _) (vQ _ _)
 |wait i=>
  simp only[St.run]
  split
  . exact bG.lC h qt (yj _ _)
  split
  . exact bG.lC h qt (nI _ _)
  . exact bG.lC h (qt.trans (Qt.aK _ s _)) (fun _ _ _ _ _=>trivial)
 |cZ=>
  have q1:Qt N D (D.put (D.place (D.t s).id) (pack 3 (D.t s).aA)):=Qt.put (by rw[hs.place];exact pQ);exact bG.keep h (q1.trans (Qt.dH _ s _)) (JV _ _)
 |abort e aQ=>
  have q1:Qt N D (D.put (D.place (D.t s).id) (pack 4 (D.t s).aA)):=Qt.put (by rw[hs.place];exact pQ);exact bG.keep h (q1.trans (Qt.dH _ s _)) (Mo _ _)
 |turns tl r=>
  cases tl with
  |nil=>exact bG.last h ((Qt.put (Au s8)).trans (Qt.finish _ s r))
  |cons x tl=>
   have hx:=hp x nK;simp only[St.run]
   split
   . exact bG.keep h (Qt.put hx) (fun y hy=>hp y (qg _ hy))
   . exact bG.keep h (Qt.cB hx) (fun y hy=>hp y (qg _ hy))
end
def WC (N:Nat) (D:St):Prop:=∃ C O,CS N D C O∧(∀ q c,D.calls.getD q none=some c->c.seq<=D.seq)∧∀ q c k,D.calls.getD q none=some c->c.k=some k->Pv N D O q c.seq k
section
variable {N L n s d:Nat} {D τ υ:St} {t:bL} {c:dN} {C:Nat->List Nat} {O O':Nat->Nat}
theorem si {D aD:St} {s:Nat} (h:jL D aD s=true):∀ q,q≠s->aD.calls.getD q none=D.calls.getD q none:=by
 intro q hq;unfold jL at h;simp only[il,zd,List.all_eq_true,List.mem_range,qd,beq_iff_eq] at h
 by_cases h8:q<8
 . exact (h.2 q h8).resolve_left hq
 . simp[mM,Cx (show aD.calls.length<=q by omega),Cx (show D.calls.length<=q by omega)]
theorem Pv.other {q cq:Nat} {k:K} (hp:Pv N D O q cq k) (hq:∀ i,O i=100+q->O' i=O i) (hw:∀ l head,(k=.dL l head∨k=.dQ l head)->O (ag l)=100+q->τ.word (af l 2)=D.word (af l 2)) (hpt:∀ l,Path N D O cq l->Path N τ O' cq l):Pv N τ O' q cq k:=by
 cases k with
 |visit _ l=>exact hpt l hp
 |older _ l=>exact hpt l hp
 |maker _ l _=>exact hpt l hp
 |ended _ l _=>exact hpt l hp
 |gW _ l _ _=>exact hpt l hp
 |seen _ l _=>exact hpt l hp
 |fresh l=>exact fun h=>(hq _ (hp h)).trans (hp h)
 |next l _ _=>exact⟨fun h=>(hq _ (hp.1 h)).trans (hp.1 h),hpt _ hp.2⟩
 |free l _ _=>exact⟨fun h=>(hq _ (hp.1 h)).trans (hp.1 h),hpt _ hp.2⟩
 |dM l _ _ _=>exact⟨fun h=>(hq _ (hp.1 h)).trans (hp.1 h),hpt _ hp.2⟩
 |fB _ l _=>exact (hq _ hp).trans hp
 |dZ _ l _=>exact (hq _ hp).trans hp
 |push l _=>exact (hq _ hp).trans hp
 |over l=>exact (hq _ hp).trans hp
 |iq l _=>exact (hq _ hp).trans hp
 |dL l head=>exact⟨(hq _ hp.1).trans hp.1,(hw l head (.inl rfl) hp.1).trans hp.2⟩
 |dQ l head=>exact⟨(hq _ hp.1).trans hp.1,(hw l head (.inr rfl) hp.1).trans hp.2⟩
 |turns tl r=>exact hp
 |_=>trivial
theorem Pv.same {q cq:Nat} {k:K} (hp:Pv N D O q cq k) (qt:Qt N D τ) (Z:∀ l head,(k=.dL l head∨k=.dQ l head)->LK N l):Pv N τ O q cq k:=
 hp.other (fun _ _=>rfl) (fun l head e _=>qt.w _ (Pl.next (Z l head e))) (fun l h=>h.quiet qt)
theorem xU.lk {k:K} (h:xU N L t c k):∀ l head,(k=.dL l head∨k=.dQ l head)->LK N l:=by
 rintro l head (rfl|rfl)
 . exact h.1
 . exact h.1
theorem WF.Xg (h:WF N L n D) {q:Nat} {c:dN} {k:K} (hc:D.calls.getD q none=some c) (Z:c.k=some k):∀ l head,(k=.dL l head∨k=.dQ l head)->LK N l:=by
 obtain⟨t,ht,hx⟩:=h.cx q c hc;obtain⟨k',e,hk'⟩:=hx.k;rw[Z] at e;obtain rfl:=zj e;exact hk'.lk
theorem WC.after (h:WF N L n D) (hw:WC N D) (hs:s<8) {ok:Option K} {cq:Nat} (h0:∀ C O,CS N D C O->(∀ q c k,D.calls.getD q none=some c->c.k=some k->Pv N D O q c.seq k)->bG N s cq D O (τ,ok))
 (hq:Qt N τ υ) (ho:∀ q,q≠s->υ.calls.getD q none=D.calls.getD q none) (hself:∀ c k,υ.calls.getD s none=some c->c.k=some k->ok=some k) (hseq:∀ c,υ.calls.getD s none=some c->c.seq=cq∧cq<=υ.seq) (Ct:D.seq<=υ.seq) (hlk:∀ k,ok=some k->∀ l head,(k=.dL l head∨k=.dQ l head)->LK N l):WC N υ:=by
 obtain⟨C,O,hc,hcs,hp⟩:=hw;obtain⟨C',O',h1,h2,h3,h4,h5⟩:=h0 C O hc hp;refine⟨C',O',h1.quiet hq,fun q c hcq=>?_,fun q c k hcq Z=>?_⟩
 . by_cases e:q=s
   . subst e
     obtain⟨e1,e2⟩:=hseq c hcq;omega
   . rw[ho q e] at hcq
     exact gy (hcs q c hcq) Ct
 . by_cases e:q=s
   . subst e
     have e1:=hself c k hcq Z;rw[(hseq c hcq).1];exact (h2 k e1).same hq (hlk k e1)
   . rw[ho q e] at hcq
     have hl:=h.Xg hcq Z;exact ((hp q c k hcq Z).other (fun i hi=>h3 i (by omega) (by omega)) (fun l head e1 e2=>h4 l (hl l head e1) (by omega) (by omega)) (fun l ZR=>ZR.tq (fun i hi=>h3 i (by omega) (by omega)) (fun x hx hi=>h4 x hx (by omega) (by omega)) h5)).same hq hl
theorem WC.step (h:WF N L n D) (hw:WC N D) (hs:s<8) {aH:St} {kd:Nat} {r:oZ} (hst:jg D s=some (aH,kd,r)):WC N aH:=by
 unfold jg at hst
 split at hst
 . rename_i t0 c ht hc
   split at hst
   . rename_i k0 hk0
     obtain⟨t,k,Z,ht2,m,ho,hr,hkk⟩:=h.mid hs hc;rw[hk0] at Z;obtain rfl:=zj Z;obtain⟨d,hd,wy⟩:=BN m ho hr rfl hkk
     split at hst
     rename_i aD ok e;rw[e] at wy
     split at hst
     . rename_i c2 hc2
       split at hst
       . rename_i hcond
         have hoth:=si hcond.2.1;have hleft:∀ C O,CS N D C O->(∀ q c k,D.calls.getD q none=some c->c.k=some k->Pv N D O q c.seq k)->bG N s c.seq D O (aD,ok):=by
          intro C O hcs hp;have q0:Qt N D (D.aK s {c with waits:=false}):=Qt.aK D s _;have hx:=RV m hkk (hcs.quiet q0) ((hp s c k0 hc hk0).same q0 hkk.lk);rw[e] at hx;exact bG.pre q0 hx
         have sH:s<aD.calls.length:=by
          cases hh:decide (s<aD.calls.length) with
          |true=>simpa using hh
          |false=>
           have hh':¬ s<aD.calls.length:=by simpa using hh
           rw[mM,Cx (by omega)] at hc2
           cases hc2
         have hlk:∀ k,ok=some k->∀ l head,(k=.dL l head∨k=.dQ l head)->LK N l:=by
          intro k ek;subst ek;obtain⟨t2,c2',m2,h1,h2,h3⟩:=wy;exact h3.lk
         have JW:c2.seq=c.seq∧aD.seq=D.seq:=by
          cases ok with
          |none=>
           obtain⟨t2,c2',m2,-⟩:=wy;have e1:=m2.ca;simp only at e1;rw[hc2] at e1;obtain rfl:=zj e1;exact⟨m2.oq.2.trans (by rw[m.ec]),m2.sq⟩
          |some k'=>
           obtain⟨t2,c2',m2,-⟩:=wy;have e1:=m2.ca;simp only at e1;rw[hc2] at e1;obtain rfl:=zj e1;exact⟨m2.oq.2.trans (by rw[m.ec]),m2.sq⟩
         obtain⟨JW,Xh⟩:=JW;have RX:D.seq<=aD.seq:=Nat.le_of_eq Xh.symm;have hcs2:c.seq<=D.seq:=by obtain⟨C,O,-,h2,-⟩:=hw;exact h2 s c hc
         have hset:∀ (x:Option dN) q,(aD.calls.set s x).getD q none=if q=s then x else aD.calls.getD q none:=fun x q=>aS _ _ _ _ sH
         unfold ll at hst
         split at hst
         . rename_i k'
           split at hst
           . obtain⟨rfl,-⟩:=iQ _ _ _ _ ▸ zj hst
             refine WC.after h hw hs hleft ⟨fun _ _=>rfl,rfl,rfl,rfl,rfl,rfl⟩ (fun q hq=>?_) (fun c k e1 e2=>?_) (fun c4 e1=>?_) RX hlk
             . show (aD.calls.set s _).getD q none=_
               rw[hset,aR hq];exact hoth q hq
             . change (aD.calls.set s _).getD s none=some c at e1
               rw[hset,aV rfl] at e1;obtain rfl:=zj e1;exact e2
             . change (aD.calls.set s _).getD s none=some c4 at e1
               rw[hset,aV rfl] at e1;obtain rfl:=zj e1;exact⟨JW,by have:=hcs2;show c.seq<=aD.seq;omega⟩
           . cases hst
         . split at hst
           . split at hst
             . split at hst
               . split at hst
                 . obtain⟨rfl,-⟩:=iQ _ _ _ _ ▸ zj hst
                   refine WC.after h hw hs hleft ⟨fun _ _=>rfl,rfl,rfl,rfl,rfl,rfl⟩ (fun q hq=>?_) (fun c k e1 e2=>?_) (fun c4 e1=>?_) RX hlk
                   . show ((aD.calls.set s _).set s none).getD q none=_
                     rw[aS _ _ _ _ (by rw[rz];exact sH),aR hq,hset,aR hq];exact hoth q hq
                   . change ((aD.calls.set s _).set s none).getD s none=some c at e1
                     rw[aS _ _ _ _ (by rw[rz];exact sH),aV rfl] at e1
                     cases e1
                   . change ((aD.calls.set s _).set s none).getD s none=some c4 at e1
                     rw[aS _ _ _ _ (by rw[rz];exact sH),aV rfl] at e1
                     cases e1
                 . cases hst
               . cases hst
             . split at hst
               . obtain⟨rfl,-⟩:=iQ _ _ _ _ ▸ zj hst
                 refine WC.after h hw hs hleft ⟨fun _ _=>rfl,rfl,rfl,rfl,rfl,rfl⟩ (fun q hq=>?_) (fun c k e1 e2=>?_) (fun c4 e1=>?_) RX hlk
                 . show ((aD.calls.set s _).set s none).getD q none=_
                   rw[aS _ _ _ _ (by rw[rz];exact sH),aR hq,hset,aR hq];exact hoth q hq
                 . change ((aD.calls.set s _).set s none).getD s none=some c at e1
                   rw[aS _ _ _ _ (by rw[rz];exact sH),aV rfl] at e1
                   cases e1
                 . change ((aD.calls.set s _).set s none).getD s none=some c4 at e1
                   rw[aS _ _ _ _ (by rw[rz];exact sH),aV rfl] at e1
                   cases e1
               . cases hst
           . cases hst
       . cases hst
     . cases hst
   . cases hst
 . cases hst
end
section
variable {N L n s cq d:Nat} {D τ υ:St} {t:bL} {c:dN} {C:Nat->List Nat} {O O':Nat->Nat}
theorem Mq (h:CS N D C O) (hs:Sh N L n D):bG N s cq D O ((D.first s).1,some (D.first s).2):=by
 unfold St.first;simp only
 split
 . split
   . refine bG.lC h (Qt.refl N D) ?_
     split<;>exact iA _
   . exact bG.lC h (Qt.refl N D) (r9 _)
 . exact bG.RU h (Qt.refl N D) (BQ s D _)
 . exact bG.lC h (Qt.refl N D) (fun _ _ _ _ _=>trivial)
 . exact bG.lC h (Qt.refl N D) (nI _ _)
 . split
   . split
     . exact bG.lC h (Qt.refl N D) (iA _)
     . split
       . exact bG.lC h (Qt.refl N D) (iA _)
       . split
         . exact BR h hs true (fun e=>absurd rfl e)
         . exact bG.lC h (Qt.refl N D) (fun _ _ _ _ _=>trivial)
   . exact bG.lC h (Qt.refl N D) (r9 _)
theorem yn (D:St) (s:Nat) (o:En.Op) (t:bL):Qt N D (cO D s o t):=by
 unfold cO
 split<;>exact⟨fun _ _=>rfl,rfl,rfl,rfl,rfl,rfl⟩
theorem WC.mf (h:WF N L n D) (hw:WC N D) (hs:s<8) {o:En.Op} {aH:St} (hi:jh D s o=some aH):WC N aH:=by
 unfold jh at hi
 split at hi
 . rename_i t ht
   split at hi
   . rename_i hcond
     obtain⟨ho,hcn,hop,Ct,sH,ZT,hf⟩:=hcond;have m:=h.RQ hs ht o ho (hop.imp id (·.1));have hout:=uX m rfl rfl
     split at hi
     rename_i dU k e
     split at hi
     . rename_i c4 hc4
       split at hi
       . rename_i hoth
         obtain rfl:=zj hi;have UX:=si hoth;have hl4:s<dU.calls.length:=by
          cases hh:decide (s<dU.calls.length) with
          |true=>simpa using hh
          |false=>
           have hh':¬ s<dU.calls.length:=by simpa using hh
           rw[mM,Cx (by omega)] at hc4
           cases hc4
         rw[e] at hout;refine WC.after (τ:=dU) (ok:=some k) (cq:=D.seq+1) h hw hs (fun C O hcs hp=>?_) (Qt.aK dU s _) (fun q hq=>?_) (fun c k' e1 e2=>?_) (fun c e1=>?_) ?_ (fun k' ek=>?_)
         . have hx:=Mq (s:=s) (cq:=D.seq+1) (hcs.quiet (yn D s o t)) m.sh
           rw[e] at hx;exact bG.pre (yn D s o t) hx
         . show (dU.calls.set s _).getD q none=_
           rw[aS _ _ _ _ hl4,aR hq];exact UX q hq
         . change (dU.calls.set s _).getD s none=some c at e1
           rw[aS _ _ _ _ hl4,aV rfl] at e1;obtain rfl:=zj e1;exact e2
         . change (dU.calls.set s _).getD s none=some c at e1
           rw[aS _ _ _ _ hl4,aV rfl] at e1;obtain rfl:=zj e1;obtain⟨t2,c2,m2,-⟩:=hout;have e1:=m2.ca;simp only at e1;rw[hc4] at e1;obtain rfl:=zj e1;have e5:=m2.sq;have e6:=m2.oq.2;rw[m.ec] at e6;refine⟨e6,?_⟩;show D.seq+1<=dU.seq;rw[show dU.seq=_ from e5,(uY D s o t).2.2.1];exact zr _
         . obtain⟨t2,c2,m2,-⟩:=hout
           show D.seq<=dU.seq;rw[show dU.seq=_ from m2.sq,(uY D s o t).2.2.1];omega
         . obtain rfl:=zj ek
           obtain⟨t2,c2,m2,h1,h2,h3⟩:=hout;exact h3.lk
       . cases hi
     . cases hi
   . cases hi
 . cases hi
theorem WC.quiet (h:WF N L n D) (hw:WC N D) (q:Qt N D τ) (hc:τ.calls=D.calls) (Ct:τ.seq=D.seq):WC N τ:=by
 obtain⟨C,O,h1,h3,h2⟩:=hw;refine⟨C,O,h1.quiet q,fun p c e1=>?_,fun p c k e1 e2=>?_⟩
 . rw[hc] at e1
   rw[Ct];exact h3 p c e1
 . rw[hc] at e1
   exact (h2 p c k e1 e2).same q (h.Xg e1 e2)
theorem yo (hs:s<8) (hsl:D.aF=N) {aD:St} (q:Qt N D aD) (az:Nat):Qt N D (bM D s az aD):=by
 unfold bM;refine q.trans (Qt.trans (τ:=({aD with aB:=D.aB+1}:St)) ⟨fun _ _=>rfl,rfl,rfl,rfl,rfl,rfl⟩ ?_);refine ((((Qt.cB yc).trans (Qt.put ?_)).trans (Qt.put (Au hs))).trans (Qt.bK _ s _)).trans (Qt.event _ _);have:D.place (D.aB+1)=73+N*3+(D.aB+1):=by unfold St.place;rw[hsl]
 rw[this];exact pQ
theorem yu (D:St) (i a b:Nat):(D.cB i a b).calls=D.calls:=by unfold St.cB;split<;>rfl
theorem rH (D:St) (s az:Nat) (aD:St):(bM D s az aD).calls=aD.calls:=by
 unfold bM;show (({aD with aB:=D.aB+1}:St).cB 0 _ _).calls=_;rw[yu]
theorem WC.aJ (h:WF N L n D) (hw:WC N D) (hs:s<8) {az id:Nat} {aH:St} (hb:jP D s az=some (aH,id)):WC N aH:=by
 unfold jP at hb
 split at hb
 . split at hb
   . obtain⟨rfl,-⟩:=iQ _ _ _ _ ▸ zj hb
     exact hw.quiet h (yo hs h.sh.sl (Qt.tick D) az) (rH _ _ _ _) (uZ _ _ _ _).2.1
   . split at hb
     . obtain⟨rfl,-⟩:=iQ _ _ _ _ ▸ zj hb
       refine hw.quiet h (yo hs h.sh.sl ((Qt.tick D).trans (Qt.dx (D:=D.tick) h.sh.sl _)) az) ((rH _ _ _ _).trans ?_) ((uZ _ _ _ _).2.1.trans ?_)
       . unfold St.dx
         rw[yu];rfl
       . unfold St.dx St.cB
         split<;>rfl
     . cases hb
 . cases hb
theorem CS.Pz (h:CS N D C O) {G seq:Nat} {rest:List (Nat×Nat)} (hc:D.cut=(G,seq)::rest):CS N {D.give G with cut:=rest} C (IB O (ag G) 0):=by
 have h0:=h.ct (G,seq) (by rw[hc];exact nK);have Mr:O (ag G)=200:=h0.2;have hcn:=h.cn;rw[hc,List.map_cons,List.nodup_cons] at hcn;have hg:(D.give G).listed=D.listed∧(D.give G).sw=D.sw∧∀ i∈(D.give G).free,i∈D.free∨i=ag G:=by
  unfold St.give
  split
  . simp only
    split
    . exact⟨rfl,rfl,fun i hi=>.inl hi⟩
    . refine⟨rfl,rfl,fun i hi=>?_⟩
      change i∈D.free++[ag G] at hi
      rcases List.mem_append.1 hi with hi|hi
      . exact .inl hi
      . simp at hi;exact .inr hi
  . exact⟨rfl,rfl,fun i hi=>.inl hi⟩
 have hwd:∀ i,({D.give G with cut:=rest}:St).word i=D.word i:=fun i=>by
  show (D.give G).word i=_;unfold St.word;rw[lu]
 refine⟨fun F Z=>?_,h.nd,fun F Z l hl=>?_,fun p hp=>?_,hcn.2,fun i hi=>?_,fun e=>?_,fun x hx ho=>?_⟩
 . rw[hwd]
   exact (h.ch F Z).kQ (fun _ _=>hwd _)
 . obtain⟨a,b⟩:=h.lo F Z l hl
   exact⟨a,(iD (by intro e;rw[e,Mr] at b;omega)).trans b⟩
 . have hp':p∈D.cut:=by rw[hc];exact qg _ hp
   obtain⟨a,b⟩:=h.ct p hp';exact⟨a,(iD (fun e=>hcn.1 (List.mem_map.2 ⟨p,hp,e⟩))).trans b⟩
 . rcases hg.2.2 i hi with hi|rfl
   . by_cases e:i=ag G
     . subst e;exact mg _ _ _
     . rw[iD e];exact h.fr i hi
   . exact mg _ _ _
 . have e':D.listed=false:=hg.1.symm.trans e
   rw[h.ul e' (ag G)] at Mr
   cases Mr
 . have hx':D.sw=some x:=hg.2.1.symm.trans hx
   exact (h.sw x hx' ho).kQ (fun _ _ _ _=>hwd _) ho
theorem WF.q8 (h:WF N L n D) {q:Nat} {c:dN} (hc:D.calls.getD q none=some c):q<8:=by
 by_cases e:q<8
 . exact e
 . rw[mM,Cx (by rw[h.sh.c8];omega)] at hc
   cases hc
theorem BS (D:St) (x:S):(D.aG x).1.seq=D.seq:=by
 cases x<;>simp only[St.aG]
 case cut F ak G next=>
  split
  . rfl
  . split<;>rfl
 all_goals rfl
theorem Ms (D:St) (l:Nat):(D.give l).seq=D.seq:=by
 unfold St.give
 split
 . simp only
   split<;>rfl
 . rfl
theorem Path.PD (h:CS N D C O) {G seq q l:Nat} {rest:List (Nat×Nat)} (hc:D.cut=(G,seq)::rest) (hq:seq<q) (hp:Path N D O q l):Path N ({D.give G with cut:=rest}:St) (IB O (ag G) 0) q l:=by
 obtain⟨ls,h1,h2⟩:=hp;have hwd:∀ i,({D.give G with cut:=rest}:St).word i=D.word i:=fun i=>by
  show (D.give G).word i=_;unfold St.word;rw[lu]
 have Mr:O (ag G)=200:=(h.ct (G,seq) (by rw[hc];exact nK)).2;refine⟨ls,h1.kQ (fun _ _=>hwd _),fun x hx=>?_⟩;obtain⟨a,b⟩:=h2 x hx;have hne:¬ ag x=ag G:=fun e=>by
  rw[e] at b
  rcases b with b|b
  . omega
  . have:=b.2 (G,seq) (by rw[hc];exact nK) rfl
    simp at this;omega
 refine⟨a,?_⟩;rw[iD hne];exact b.imp id (fun b=>⟨b.1,fun p hp=>b.2 p (by rw[hc];exact qg _ hp)⟩)
theorem WC.cz (h:WF N L n D) (hw:WC N D):WC N D.cz.1:=by
 have hgo:WC N (St.cz.go D).1:=by
  obtain⟨C,O,h1,h3,h2⟩:=hw;have hx:Gy N (D.sw.getD .now)∧GH D C (D.sw.getD .now):=by
   cases e:D.sw with
   |none=>exact⟨trivial,trivial⟩
   |some x=>exact⟨h.sx.so x e,h1.sw x e (h.sx.so x e)⟩
  obtain⟨C',O',g1,g2,g3,g4,g5⟩:=h1.aG h.sh hx.1 hx.2;obtain⟨e1,e2,e3,e4,e5,e6,e7⟩:=qG D (D.sw.getD .now);have ZU:(D.aG (D.sw.getD .now)).1.seq=D.seq:=BS D _;unfold St.cz.go;simp only;refine⟨C',O',g1.quiet ⟨fun _ _=>rfl,rfl,rfl,rfl,rfl,rfl⟩,fun q c hc=>?_,fun q c k hc Z=>?_⟩
  . have hc':D.calls.getD q none=some c:=by rw[<-e1];exact hc
    show c.seq<=(D.aG (D.sw.getD .now)).1.seq;rw[ZU];exact h3 q c hc'
  have hc':D.calls.getD q none=some c:=by rw[<-e1];exact hc
  have hq:=h.q8 hc';exact ((h2 q c k hc' Z).other (fun i hi=>g2 i (by omega)) (fun l head _ hl=>g3 (ag l) (by omega) l rfl) (fun l=>g5 c.seq l (h3 q c hc'))).same ⟨fun _ _=>rfl,rfl,rfl,rfl,rfl,rfl⟩ (h.Xg hc' Z)
 unfold St.cz
 split
 . rename_i G seq rest hcut
   split
   . rename_i hall
     obtain⟨C,O,h1,h3,h2⟩:=hw;have Mr:O (ag G)=200:=(h1.ct (G,seq) (by rw[hcut];exact nK)).2;refine⟨C,_,h1.Pz hcut,fun q c hc=>?_,fun q c k hc Z=>?_⟩
     . have hc':D.calls.getD q none=some c:=by rw[<-(oM D G).2.1];exact hc
       show c.seq<=(D.give G).seq;rw[(Ms D G)];exact h3 q c hc'
     have hc':D.calls.getD q none=some c:=by rw[<-(oM D G).2.1];exact hc
     have hq:=h.q8 hc';have hlt:seq<c.seq:=by
      rw[List.all_eq_true] at hall;have hm:some c∈D.calls:=by
       rw[mM] at hc'
       cases e:D.calls[q]? with
       |none=>rw[e] at hc';cases hc'
       |some y=>rw[e] at hc';have e2:y=some c:=hc';rw[e2] at e;exact List.mem_of_getElem? e
      have:=hall _ hm
      simpa using this
     refine (h2 q c k hc' Z).other (fun i hi=>iD (by rintro rfl;omega)) (fun l head _ hl=>?_) (fun l hp=>hp.PD h1 hcut hlt);show (D.give G).word _=_;unfold St.word;rw[lu]
   . exact hgo
 . exact hgo
theorem WC.tick (h:WF N L n D) (hw:WC N D):WC N D.tick:=hw.quiet h (Qt.tick D) rfl rfl
theorem WC.new (N L:Nat):WC N (new N L):=by
 have hwd:∀ i,(En.new N L).word i=0:=fun i=>by
  unfold St.word;show (List.replicate _ 0).getD i 0=0;rw[mM,List.getElem?_replicate]
  split<;>rfl
 refine⟨fun _=>[],fun _=>0,⟨fun F _=>hwd _,fun _ _=>List.nodup_nil,fun _ _ l hl=>(by cases hl),fun p hp=>(by cases hp),List.nodup_nil,fun _ _=>rfl,fun _ _=>rfl,fun x hx=>(by cases hx)⟩,fun q c hc=>?_,fun q c k hc=>?_⟩
 all_goals exfalso
 all_goals change (List.replicate 8 none).getD q none=some c at hc
 all_goals rw[mM,List.getElem?_replicate] at hc
 all_goals split at hc<;>cases hc
end
end Go.Proofs.YthicolbbmjfkfaaGreat.Em.Cw
