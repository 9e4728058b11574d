import Derived.Test.YtmgghljjjpcgkaaGreatQz24
namespace Go.Proofs.YtmgghljjjpcgkaaGreat.Em.Cw
open En
set_option linter.unusedVariables false
set_option linter.unusedSimpArgs false
set_option maxRecDepth 100000
set_option maxHeartbeats 1600000
/- What holds a key's versions together:every chain ends,no slot stands twice in it. -/
def Chain (σ:St):Nat→List Nat→Prop
 |h,[]=>h=0
 |h,l::ls=>h=l∧l≠0∧Chain σ (σ.word (wslot l 2)) ls
def Pl (N i:Nat):Prop:=(9≤i∧i<73)∨(73≤i∧i<73+N*3∧i % 3=0)
def SwC (σ:St) (L:Nat→List Nat):S→Prop
 |.visit key ahead link|.maker key ahead link _|.garbage key ahead link _|.unlink key ahead link=>link∈L key∧(ahead≠0→ahead∈L key∧σ.word (wslot ahead 2)=link)
 |.cut key ahead link next=>link∈L key∧(ahead≠0→ahead∈L key∧σ.word (wslot ahead 2)=link)∧σ.word (wslot link 2)=next
 |.on key link=>link∈L key
 |_=>True
structure CS (N:Nat) (σ:St) (L:Nat→List Nat) (O:Nat→Nat):Prop where
 ch:∀ key,key<64→Chain σ (σ.word (9+key)) (L key)
 nd:∀ key,key<64→((L key).map slotOf).Nodup
 lo:∀ key,key<64→∀ l∈L key,LK N l∧O (slotOf l)=key+1
 ct:∀ p∈σ.cut,LK N p.1∧O (slotOf p.1)=200
 cn:(σ.cut.map fun p=>slotOf p.1).Nodup
 fr:∀ i∈σ.free,O i=0
 ul:σ.listed=false→∀ i,O i=0
 sw:∀ x,σ.sw=some x→SOk N x→SwC σ L x
structure Qt (N:Nat) (σ τ:St):Prop where
 w:∀ i,Pl N i→τ.word i=σ.word i
 free:τ.free=σ.free
 listed:τ.listed=σ.listed
 cut:τ.cut=σ.cut
 sw:τ.sw=σ.sw
 slots:τ.slots=σ.slots
section
variable {N:Nat} {σ τ υ:St} {L:Nat→List Nat} {O:Nat→Nat}
theorem Pl.head {key:Nat} (h:key<64):Pl N (9+key):=.inl ⟨by omega,by omega⟩
theorem Pl.next {l:Nat} (h:LK N l):Pl N (wslot l 2):=by
 have:=h.slotOf;right;unfold wslot;omega
theorem Chain.cong {ls:List Nat} (hw:∀ l∈ls,τ.word (wslot l 2)=σ.word (wslot l 2)):∀ {h:Nat},Chain σ h ls→Chain τ h ls:=by
 induction ls with
 |nil=>intro h hc;exact hc
 |cons l ls ih=>
  intro h hc;refine⟨hc.1,hc.2.1,?_⟩;rw[hw l List.mem_cons_self];exact ih (fun l' hl'=>hw l' (List.mem_cons_of_mem _ hl')) hc.2.2
theorem Qt.refl (N:Nat) (σ:St):Qt N σ σ:=⟨fun _ _=>rfl,rfl,rfl,rfl,rfl,rfl⟩
theorem Qt.trans (a:Qt N σ τ) (b:Qt N τ υ):Qt N σ υ:=⟨fun i h=>(b.w i h).trans (a.w i h),b.free.trans a.free,b.listed.trans a.listed,b.cut.trans a.cut,b.sw.trans a.sw,b.slots.trans a.slots⟩
theorem SwC.cong (hw:∀ key,key<64→∀ l∈L key,τ.word (wslot l 2)=σ.word (wslot l 2)) {x:S} (hx:SOk N x) (h:SwC σ L x):SwC τ L x:=by
 cases x with
 |visit key ahead link=>exact⟨h.1,fun ha=>⟨(h.2 ha).1,(hw key (by have:=hx.1;omega) _ (h.2 ha).1).trans (h.2 ha).2⟩⟩
 |maker key ahead link id=>exact⟨h.1,fun ha=>⟨(h.2 ha).1,(hw key (by have:=hx.1;omega) _ (h.2 ha).1).trans (h.2 ha).2⟩⟩
 |garbage key ahead link b=>exact⟨h.1,fun ha=>⟨(h.2 ha).1,(hw key (by have:=hx.1;omega) _ (h.2 ha).1).trans (h.2 ha).2⟩⟩
 |unlink key ahead link=>exact⟨h.1,fun ha=>⟨(h.2 ha).1,(hw key (by have:=hx.1;omega) _ (h.2 ha).1).trans (h.2 ha).2⟩⟩
 |cut key ahead link next=>exact⟨h.1,fun ha=>⟨(h.2.1 ha).1,(hw key (by have:=hx.1;omega) _ (h.2.1 ha).1).trans (h.2.1 ha).2⟩,(hw key (by have:=hx.1;omega) _ h.1).trans h.2.2⟩
 |on key link=>exact h
 |live s=>trivial
 |head key=>trivial
 |now=>trivial
theorem CS.quiet (h:CS N σ L O) (q:Qt N σ τ):CS N τ L O:=by
 have hw:∀ key,key<64→∀ l∈L key,τ.word (wslot l 2)=σ.word (wslot l 2):=fun key hk l hl=>q.w _ (Pl.next (h.lo key hk l hl).1)
 refine⟨fun key hk=>?_,h.nd,h.lo,?_,?_,?_,?_,?_⟩
 · rw[q.w _ (Pl.head hk)]
   exact (h.ch key hk).cong (hw key hk)
 · rw[q.cut];exact h.ct
 · rw[q.cut];exact h.cn
 · rw[q.free];exact h.fr
 · rw[q.listed];exact h.ul
 · intro x hx ho
   rw[q.sw] at hx;exact (h.sw x hx ho).cong hw ho
theorem Qt.tick (σ:St):Qt N σ σ.tick:=⟨fun _ _=>rfl,rfl,rfl,rfl,rfl,rfl⟩
theorem Qt.put {i v:Nat} (hi:¬ Pl N i):Qt N σ (σ.put i v):=by
 refine⟨fun j hj=>?_,rfl,rfl,rfl,rfl,rfl⟩;rw[put_word];have:¬ j=i:=by rintro rfl;exact hi hj
 rw[if_neg (fun e=>this e.1)]
theorem Qt.cas {i o v:Nat} (hi:¬ Pl N i):Qt N σ (σ.cas i o v):=by
 unfold St.cas
 split
 · exact Qt.put hi
 · exact Qt.tick σ
theorem Qt.setT (σ:St) (s:Nat) (t:Txn):Qt N σ (σ.setT s t):=⟨fun _ _=>rfl,rfl,rfl,rfl,rfl,rfl⟩
theorem Qt.setC (σ:St) (s:Nat) (c:Cal):Qt N σ (σ.setC s c):=⟨fun _ _=>rfl,rfl,rfl,rfl,rfl,rfl⟩
theorem Qt.event (σ:St) (e:Ev):Qt N σ (σ.event e):=⟨fun _ _=>rfl,rfl,rfl,rfl,rfl,rfl⟩
theorem Qt.vals (σ:St) (v:List (Nat×Nat)):Qt N σ {σ with values:=v}:=⟨fun _ _=>rfl,rfl,rfl,rfl,rfl,rfl⟩
theorem Qt.bind (σ:St) (s to:Nat):Qt N σ (σ.bind s to):=by
 unfold St.bind
 split
 · exact Qt.refl N σ
 · exact (Qt.setT σ s _).trans (Qt.event _ _)
theorem Qt.read (σ:St) (s key link:Nat) (got:Bool):Qt N σ (σ.read s key link got):=Qt.setT σ s _
theorem Qt.tell (σ:St) (s key v:Nat):Qt N σ (σ.tell s key v):=Qt.setC σ s _
theorem Qt.tellEnd (σ:St) (s:Nat) (e:Ev):Qt N σ (σ.tellEnd s e):=by
 unfold St.tellEnd
 split
 · exact Qt.refl N σ
 · exact (Qt.setT σ s _).trans (Qt.event _ _)
theorem Qt.finish (σ:St) (s:Nat) (r:Res):Qt N σ (σ.finish s r):=Qt.setC σ s _
theorem noPl_clock:¬ Pl N 0:=by unfold Pl;omega
theorem noPl_live {s:Nat} (h:s<8):¬ Pl N (1+s):=by unfold Pl;omega
theorem noPl_place {id:Nat}:¬ Pl N (73+N*3+id):=by unfold Pl;omega
theorem noPl_slot {l w:Nat} (hw:w<2):¬ Pl N (wslot l w):=by unfold Pl wslot;omega
theorem Qt.help (hs:σ.slots=N) (w:Nat):Qt N σ (σ.help w):=by
 unfold St.help;refine Qt.cas ?_;have:σ.place (lastOf w)=73+N*3+lastOf w:=by unfold St.place;rw[hs]
 rw[this];exact noPl_place
end
def upO (O:Nat→Nat) (i v:Nat):Nat→Nat:=fun j=>if j=i then v else O j
def upL (L:Nat→List Nat) (k:Nat) (v:List Nat):Nat→List Nat:=fun j=>if j=k then v else L j
theorem upO_self (O:Nat→Nat) (i v:Nat):upO O i v i=v:=if_pos rfl
theorem upO_ne {O:Nat→Nat} {i v j:Nat} (h:¬ j=i):upO O i v j=O j:=if_neg h
theorem upL_self (L:Nat→List Nat) (k:Nat) (v:List Nat):upL L k v k=v:=if_pos rfl
theorem upL_ne {L:Nat→List Nat} {k:Nat} {v:List Nat} {j:Nat} (h:¬ j=k):upL L k v j=L j:=if_neg h
theorem nodup_lt:∀ (N:Nat) (l:List Nat),l.Nodup→(∀ x∈l,x<N)→l.length≤N:=by
 intro N
 induction N with
 |zero=>
  intro l hn h
  cases l with
  |nil=>exact Nat.le_refl _
  |cons x l=>exact absurd (h x List.mem_cons_self) (by omega)
 |succ N ih=>
  intro l hn h;have h1:(l.erase N).length≤N:=by
   refine ih _ (hn.erase N) (fun x hx=>?_);rw[hn.mem_erase_iff] at hx;have:=h x hx.2;have:=hx.1;omega
  by_cases hm:N∈l
  · rw[List.length_erase_of_mem hm] at h1;omega
  · rw[List.erase_of_not_mem hm] at h1;omega
theorem slotOf_linkOf {i tag:Nat} (h:i<131071):slotOf (linkOf i tag)=i:=by unfold slotOf linkOf;omega
section
variable {N Lm n:Nat} {σ τ υ:St} {L:Nat→List Nat} {O:Nat→Nat}
theorem CS.same (h:CS N σ L O) (ew:∀ i,τ.word i=σ.word i) (ec:τ.cut=σ.cut) (es:τ.sw=σ.sw) (fr:∀ i∈τ.free,O i=0) (ul:τ.listed=false→∀ i,O i=0):CS N τ L O:=by
 refine⟨fun key hk=>?_,h.nd,h.lo,by rw[ec];exact h.ct,by rw[ec];exact h.cn,fr,ul,fun x hx ho=>?_⟩
 · rw[ew];exact (h.ch key hk).cong (fun _ _=>ew _)
 · rw[es] at hx;exact (h.sw x hx ho).cong (fun _ _ _ _=>ew _) ho
theorem CS.list (h:CS N σ L O):CS N σ.list L O:=by
 unfold St.list
 split
 · exact h
 · rename_i hl
   have hl':σ.listed=false:=by simpa using hl
   exact h.same (fun _=>rfl) rfl rfl (fun i _=>h.ul hl' i) (fun e=>(by cases e))
theorem CS.hand (h:CS N σ L O) {i v:Nat} (h1:O i=0∨64<O i) (h2:O i≠200) (h3:i∈σ.free→v=0) (h4:σ.listed=true):CS N σ L (upO O i v):=by
 refine⟨h.ch,h.nd,fun key hk l hl=>?_,fun p hp=>?_,h.cn,fun j hj=>?_,fun e=>(by rw[h4] at e;cases e),h.sw⟩
 · obtain⟨a,b⟩:=h.lo key hk l hl
   exact⟨a,(upO_ne (by intro e;rw[e] at b;omega)).trans b⟩
 · obtain⟨a,b⟩:=h.ct p hp
   exact⟨a,(upO_ne (by intro e;rw[e] at b;exact h2 b)).trans b⟩
 · by_cases e:j=i
   · subst e;rw[upO_self];exact h3 hj
   · rw[upO_ne e];exact h.fr j hj
theorem take_words (σ:St):σ.take.1.words=σ.words:=by
 have e:σ.list.words=σ.words:=by unfold St.list;split<;>rfl
 unfold St.take;simp only
 split<;>exact e
theorem CS.take (h:CS N σ L O) (hs:Sh N Lm n σ) (v:Nat):(σ.take.2=none→CS N σ.take.1 L O)∧∀ l,σ.take.2=some l→O (slotOf l)=0∧CS N σ.take.1 L (upO O (slotOf l) v):=by
 have hl:=h.list;have hsl:=hs.list;unfold St.take;simp only
 split
 · exact⟨fun _=>hl,fun l e=>by cases e⟩
 · rename_i i hi
   have hmem:i∈σ.list.free:=List.mem_of_getLast? hi;have hfr:=hsl.pool.fr i hmem;have hsplit:σ.list.free=σ.list.free.dropLast++[i]:=by
    have hne:σ.list.free≠[]:=by intro e;rw[e] at hi;cases hi
    have h1:=List.dropLast_concat_getLast hne;have h2:σ.list.free.getLast hne=i:=by
     rw[List.getLast?_eq_some_getLast hne] at hi;exact Option.some.inj hi
    rw[h2] at h1;exact h1.symm
   have hnd:=hsl.pool.nd;rw[hsplit,List.nodup_append] at hnd;refine⟨fun e=>(by cases e),fun l e=>?_⟩;obtain rfl:=Option.some.inj e;have hsi:slotOf (σ.list.linkAt i)=i:=slotOf_linkOf (by have:=hfr.1;have:=hs.n1;omega);rw[hsi];have h0:=hl.fr i hmem;refine⟨h0,?_⟩;have hl2:CS N {σ.list with free:=σ.list.free.dropLast,tags:=σ.list.tags.set i ((σ.list.tags.getD i (0,false)).1,true)} L O:=
    hl.same (fun _=>rfl) rfl rfl (fun j hj=>hl.fr j (by rw[hsplit];exact List.mem_append_left _ hj)) hl.ul
   exact hl2.hand (.inl h0) (by omega) (fun hf=>absurd rfl (hnd.2.2 i hf i (by simp))) (list_listed σ)
theorem give_words (σ:St) (l:Nat):(σ.give l).words=σ.words:=by
 unfold St.give
 split
 · simp only;split<;>rfl
 · rfl
theorem CS.give (h:CS N σ L O) {link:Nat} (h1:64<O (slotOf link)) (h2:O (slotOf link)≠200) (hl:σ.listed=true):CS N (σ.give link) L (upO O (slotOf link) 0):=by
 have h0:=h.hand (v:=0) (.inr h1) h2 (fun _=>rfl) hl;unfold St.give
 split
 · simp only
   split
   · exact h0.same (fun _=>rfl) rfl rfl h0.fr h0.ul
   · refine h0.same (fun _=>rfl) rfl rfl (fun i hi=>?_) h0.ul
     change i∈σ.free++[slotOf link] at hi;rw[List.mem_append] at hi
     rcases hi with hi|hi
     · exact h0.fr i hi
     · simp at hi;subst hi;exact upO_self O _ 0
 · exact h0
theorem wslot_ne {l l':Nat} (h:¬ slotOf l=slotOf l'):¬ wslot l 2=wslot l' 2:=by unfold wslot;omega
theorem CS.next (h:CS N σ L O) {link v:Nat} (h1:O (slotOf link)=0∨64<O (slotOf link)):CS N (σ.put (wslot link 2) v) L O:=by
 have hw:∀ key,key<64→∀ l∈L key,(σ.put (wslot link 2) v).word (wslot l 2)=σ.word (wslot l 2):=fun key hk l hl=>by
  rw[put_word,if_neg];rintro ⟨e,-⟩;have hb:=(h.lo key hk l hl).2;refine wslot_ne (fun e2=>?_) e;rw[e2] at hb;omega
 refine⟨fun key hk=>?_,h.nd,h.lo,h.ct,h.cn,h.fr,h.ul,fun x hx ho=>(h.sw x hx ho).cong hw ho⟩;rw[put_word,if_neg (by rintro ⟨e,-⟩;unfold wslot at e;omega)];exact (h.ch key hk).cong (hw key hk)
theorem SwC.mono {L':Nat→List Nat} (hm:∀ key,key<64→∀ l∈L key,l∈L' key) {x:S} (hx:SOk N x) (h:SwC σ L x):SwC σ L' x:=by
 cases x with
 |visit key ahead link=>exact⟨hm key (by have:=hx.1;omega) _ h.1,fun ha=>⟨hm key (by have:=hx.1;omega) _ (h.2 ha).1,(h.2 ha).2⟩⟩
 |maker key ahead link id=>exact⟨hm key (by have:=hx.1;omega) _ h.1,fun ha=>⟨hm key (by have:=hx.1;omega) _ (h.2 ha).1,(h.2 ha).2⟩⟩
 |garbage key ahead link b=>exact⟨hm key (by have:=hx.1;omega) _ h.1,fun ha=>⟨hm key (by have:=hx.1;omega) _ (h.2 ha).1,(h.2 ha).2⟩⟩
 |unlink key ahead link=>exact⟨hm key (by have:=hx.1;omega) _ h.1,fun ha=>⟨hm key (by have:=hx.1;omega) _ (h.2 ha).1,(h.2 ha).2⟩⟩
 |cut key ahead link next=>exact⟨hm key (by have:=hx.1;omega) _ h.1,fun ha=>⟨hm key (by have:=hx.1;omega) _ (h.2.1 ha).1,(h.2.1 ha).2⟩,h.2.2⟩
 |on key link=>exact hm key (by have:=hx.1;omega) _ h
 |live s=>trivial
 |head key=>trivial
 |now=>trivial
theorem CS.push (h:CS N σ L O) {key head link:Nat} (hk:key<64) (hl:LK N link) (h1:64<O (slotOf link)) (h2:O (slotOf link)≠200) (hw:σ.word (wslot link 2)=head) (hh:σ.word (9+key)=head) (hlen:9+key<σ.words.length) (hls:σ.listed=true):
 CS N (σ.put (9+key) link) (upL L key (link::L key)) (upO O (slotOf link) (key+1)):=by
 have hww:∀ l,(σ.put (9+key) link).word (wslot l 2)=σ.word (wslot l 2):=fun l=>by
  rw[put_word,if_neg];rintro ⟨e,-⟩;unfold wslot at e;omega
 have hno:∀ k,k<64→∀ l∈L k,¬ slotOf l=slotOf link:=fun k hk' l hl' e=>by
  have:=(h.lo k hk' l hl').2;rw[e] at this;omega
 refine⟨fun k hk'=>?_,fun k hk'=>?_,fun k hk' l hl'=>?_,fun p hp=>?_,h.cn,fun i hi=>?_,fun e=>(by rw[show σ.listed=false from e] at hls;cases hls),fun x hx ho=>?_⟩
 · by_cases e:k=key
   · subst e
     rw[upL_self,put_word,if_pos ⟨rfl,hlen⟩];refine⟨rfl,hl.ne,?_⟩;rw[hww,hw,←hh];exact (h.ch k hk').cong (fun l _=>hww l)
   · rw[upL_ne e,put_word,if_neg (by omega)]
     exact (h.ch k hk').cong (fun l _=>hww l)
 · by_cases e:k=key
   · subst e
     rw[upL_self,List.map_cons,List.nodup_cons];refine⟨fun hm=>?_,h.nd k hk'⟩;obtain⟨l,hl',e⟩:=List.mem_map.1 hm;exact hno k hk' l hl' e
   · rw[upL_ne e];exact h.nd k hk'
 · by_cases e:k=key
   · subst e
     rw[upL_self] at hl'
     rcases List.mem_cons.1 hl' with rfl|hl'
     · exact⟨hl,upO_self _ _ _⟩
     · exact⟨(h.lo k hk' l hl').1,(upO_ne (hno k hk' l hl')).trans (h.lo k hk' l hl').2⟩
   · rw[upL_ne e] at hl'
     exact⟨(h.lo k hk' l hl').1,(upO_ne (hno k hk' l hl')).trans (h.lo k hk' l hl').2⟩
 · obtain⟨a,b⟩:=h.ct p hp
   exact⟨a,(upO_ne (by intro e;rw[e] at b;exact h2 b)).trans b⟩
 · have:=h.fr i hi
   rw[upO_ne (by rintro rfl;omega)];exact this
 · refine SwC.mono (L:=L) (fun k hk' l hl'=>?_) ho ((h.sw x hx ho).cong (fun k hk' l _=>hww l) ho)
   by_cases e:k=key
   · subst e;rw[upL_self];exact List.mem_cons_of_mem _ hl'
   · rw[upL_ne e];exact hl'
theorem Chain.split {a:Nat}:∀ {ls:List Nat} {h:Nat},Chain σ h ls→a∈ls→∃ pre post,ls=pre++a::post∧Chain σ (σ.word (wslot a 2)) post:=by
 intro ls
 induction ls with
 |nil=>intro h _ ha;cases ha
 |cons l ls ih=>
  intro h hc ha
  by_cases e:a=l
  · subst e;exact⟨[],ls,rfl,hc.2.2⟩
  · obtain⟨pre,post,h1,h2⟩:=ih hc.2.2 ((List.mem_cons.1 ha).resolve_left e)
    exact⟨l::pre,post,by rw[h1];rfl,h2⟩
theorem Chain.next {h l:Nat} {ls:List Nat} (hc:Chain σ h ls) (hl:l∈ls) (hn:σ.word (wslot l 2)≠0):σ.word (wslot l 2)∈ls:=by
 obtain⟨pre,post,rfl,h2⟩:=hc.split hl
 cases post with
 |nil=>exact absurd h2 hn
 |cons b post=>rw[h2.1];simp
theorem Chain.first {h:Nat} {ls:List Nat} (hc:Chain σ h ls) (hn:h≠0):h∈ls:=by
 cases ls with
 |nil=>exact absurd hc hn
 |cons l ls=>rw[hc.1];exact List.mem_cons_self
end
section
variable {N Lm n:Nat} {σ τ υ:St} {L:Nat→List Nat} {O:Nat→Nat}
theorem split_map {pre post:List Nat} {a:Nat} (h:((pre++a::post).map slotOf).Nodup):((pre++post).map slotOf).Nodup∧¬ slotOf a∈(pre++post).map slotOf:=by
 rw[List.map_append,List.map_cons] at h;have hp:(pre.map slotOf++slotOf a::post.map slotOf).Perm (slotOf a::(pre.map slotOf++post.map slotOf)):=List.perm_middle;have h2:=hp.nodup_iff.1 h;rw[List.nodup_cons] at h2;rw[List.map_append];exact⟨h2.2,h2.1⟩
theorem CS.cutOut (h:CS N σ L O) {key i link next:Nat} (hk:key<64) {pre post:List Nat} (hL:L key=pre++link::post)
 (hi:Pl N i) (hlen:i<σ.words.length) (hc:Chain (σ.put i next) ((σ.put i next).word (9+key)) (pre++post))
 (ho:∀ k,k<64→¬ k=key→¬ 9+k=i∧∀ l∈L k,¬ wslot l 2=i) (sw:Option S) (seq:Nat)
 (hsw:∀ x,sw=some x→SOk N x→SwC (σ.put i next) (upL L key (pre++post)) x):
 CS N {σ.put i next with cut:=σ.cut++[(link,seq)],cuts:=σ.cuts+1,sw:=sw} (upL L key (pre++post)) (upO O (slotOf link) 200):=by
 obtain⟨n1,n2⟩:=split_map (a:=link) (by rw[←hL];exact h.nd key hk);have hlk:=h.lo key hk link (by rw[hL];simp);have hno:∀ k,k<64→∀ l∈upL L key (pre++post) k,l∈L k∧¬ slotOf l=slotOf link:=fun k hk' l hl'=>by
  by_cases e:k=key
  · subst e
    rw[upL_self] at hl';refine⟨by rw[hL];rcases List.mem_append.1 hl' with x|x<;>simp[x],fun e=>n2 (List.mem_map.2 ⟨l,hl',e⟩)⟩
  · rw[upL_ne e] at hl'
    refine⟨hl',fun e2=>?_⟩;have h1:=(h.lo k hk' l hl').2;rw[e2,hlk.2] at h1;omega
 refine⟨fun k hk'=>?_,fun k hk'=>?_,fun k hk' l hl'=>?_,fun p hp=>?_,?_,fun j hj=>?_,fun e=>?_,fun x hx hox=>?_⟩
 · by_cases e:k=key
   · subst e
     rw[upL_self];show Chain _ ((σ.put i next).word (9+k)) _;refine Chain.cong (σ:=σ.put i next) ?_ hc;intro _ _;rfl
   · obtain⟨o1,o2⟩:=ho k hk' e
     rw[upL_ne e];show Chain _ ((σ.put i next).word (9+k)) _;rw[put_word,if_neg (fun x=>o1 x.1)];refine (h.ch k hk').cong (fun l hl'=>?_);show (σ.put i next).word (wslot l 2)=_;rw[put_word,if_neg (fun x=>o2 l hl' x.1)]
 · by_cases e:k=key
   · subst e;rw[upL_self];exact n1
   · rw[upL_ne e];exact h.nd k hk'
 · obtain⟨a,b⟩:=hno k hk' l hl'
   exact⟨(h.lo k hk' l a).1,(upO_ne b).trans (h.lo k hk' l a).2⟩
 · change p∈σ.cut++[(link,seq)] at hp
   rcases List.mem_append.1 hp with hp|hp
   · obtain⟨a,b⟩:=h.ct p hp
     exact⟨a,(upO_ne (by intro e;rw[e,hlk.2] at b;omega)).trans b⟩
   · simp at hp;subst hp;exact⟨hlk.1,upO_self _ _ _⟩
 · show ((σ.cut++[(link,seq)]).map fun p=>slotOf p.1).Nodup
   rw[List.map_append,List.nodup_append];refine⟨h.cn,by simp,fun a ha b hb=>?_⟩;simp at hb;subst hb;rintro rfl;obtain⟨p,hp,e⟩:=List.mem_map.1 ha;have:=(h.ct p hp).2;rw[show slotOf p.1=slotOf link from e,hlk.2] at this;omega
 · have:=h.fr j hj
   rw[upO_ne (by rintro rfl;rw[hlk.2] at this;omega)];exact this
 · have:=h.ul e (slotOf link)
   rw[hlk.2] at this;omega
 · exact (hsw x hx hox).cong (fun _ _ _ _=>rfl) hox
theorem headS_sw {key:Nat}:∀ x,headS key=some x→SwC σ L x:=by
 intro x hx;unfold headS at hx
 split at hx
 · cases hx
 · obtain rfl:=Option.some.inj hx;trivial
theorem visitS_sw {key ahead link:Nat} (h:link≠0→link∈L key∧(ahead≠0→ahead∈L key∧σ.word (wslot ahead 2)=link)):∀ x,visitS key ahead link=some x→SwC σ L x:=by
 intro x hx;unfold visitS at hx
 split at hx
 · exact headS_sw x hx
 · rename_i hl
   obtain rfl:=Option.some.inj hx;exact h hl
theorem liveS_sw {s:Nat}:∀ x,liveS s=some x→SwC σ L x:=by
 intro x hx;unfold liveS at hx
 split at hx
 · exact headS_sw x hx
 · obtain rfl:=Option.some.inj hx;trivial
theorem CS.swTo (h:CS N σ L O) (ew:∀ i,τ.word i=σ.word i) (ec:τ.cut=σ.cut) (ef:τ.free=σ.free) (el:τ.listed=σ.listed) (hsw:∀ x,τ.sw=some x→SwC σ L x):CS N τ L O:=by
 refine⟨fun key hk=>?_,h.nd,h.lo,by rw[ec];exact h.ct,by rw[ec];exact h.cn,by rw[ef];exact h.fr,by rw[el];exact h.ul,fun x hx ho=>(hsw x hx).cong (fun _ _ _ _=>ew _) ho⟩;rw[ew];exact (h.ch key hk).cong (fun _ _=>ew _)
theorem CS.sweepRun (h:CS N σ L O) (hs:Sh N Lm n σ) {x:S} (hx:SOk N x) (hw:SwC σ L x):∃ L' O',CS N (σ.sweepRun x).1 L' O'∧(∀ i,64<O i→O' i=O i)∧(∀ i,64<O i→(∀ l,slotOf l=i→(σ.sweepRun x).1.word (wslot l 2)=σ.word (wslot l 2)))∧(∀ i,¬ Pl N i→(σ.sweepRun x).1.word i=σ.word i):=by
 cases x with
 |now=>exact⟨L,O,h.swTo (fun _=>rfl) rfl rfl rfl (fun x hx=>liveS_sw (s:=0) x hx),fun _ _=>rfl,fun _ _ _ _=>rfl,fun _ _=>rfl⟩
 |live s=>exact⟨L,O,h.swTo (fun _=>rfl) rfl rfl rfl (fun x hx=>liveS_sw (s:=s+1) x hx),fun _ _=>rfl,fun _ _ _ _=>rfl,fun _ _=>rfl⟩
 |head key=>
  have hk:key≤63:=hx;exact⟨L,O,h.swTo (fun _=>rfl) rfl rfl rfl (visitS_sw (fun hl=>⟨(h.ch key (by omega)).first hl,fun e=>absurd rfl e⟩)),fun _ _=>rfl,fun _ _ _ _=>rfl,fun _ _=>rfl⟩
 |visit key ahead link=>
  refine⟨L,O,h.swTo (fun _=>rfl) rfl rfl rfl (fun x hx=>?_),fun _ _=>rfl,fun _ _ _ _=>rfl,fun _ _=>rfl⟩;have hx':=(Option.some.inj hx).symm
  split at hx'<;>(subst hx';exact hw)
 |maker key ahead link id=>
  refine⟨L,O,h.swTo (fun _=>rfl) rfl rfl rfl (fun x hx=>?_),fun _ _=>rfl,fun _ _ _ _=>rfl,fun _ _=>rfl⟩;have hx':=(Option.some.inj hx).symm
  split at hx'
  · subst hx';exact hw
  · subst hx';exact hw.1
 |garbage key ahead link b=>
  refine⟨L,O,h.swTo (fun _=>rfl) rfl rfl rfl (fun x hx=>?_),fun _ _=>rfl,fun _ _ _ _=>rfl,fun _ _=>rfl⟩;have hx':=(Option.some.inj hx).symm
  split at hx'
  · subst hx';exact hw
  · subst hx';exact hw.1
 |on key link=>
  have hk:key<64:=by have:=hx.1;omega
  exact⟨L,O,h.swTo (fun _=>rfl) rfl rfl rfl (visitS_sw (fun hl=>⟨(h.ch key hk).next hw hl,fun _=>⟨hw,rfl⟩⟩)),fun _ _=>rfl,fun _ _ _ _=>rfl,fun _ _=>rfl⟩
 |unlink key ahead link=>
  refine⟨L,O,h.swTo (fun _=>rfl) rfl rfl rfl (fun x hx=>?_),fun _ _=>rfl,fun _ _ _ _=>rfl,fun _ _=>rfl⟩;obtain rfl:=Option.some.inj hx;exact⟨hw.1,hw.2,rfl⟩
 |cut key ahead link next=>
  obtain⟨hk63,ha,hl,hn⟩:=hx;have hk:key<64:=by omega
  obtain⟨w1,w2,w3⟩:=hw;obtain⟨pre,post,hL,hpost⟩:=(h.ch key hk).split w1;rw[w3] at hpost;have hnd:=h.nd key hk;simp only[St.sweepRun]
  split
  · rename_i ha0
    obtain⟨a1,a2⟩:=w2 ha0;have hal:LK N ahead:=(h.lo key hk ahead a1).1;obtain⟨pre2,post2,hL2,hc2⟩:=(h.ch key hk).split a1;rw[a2] at hc2;obtain⟨post3,rfl,hc3⟩:∃ post3,post2=link::post3∧Chain σ next post3:=by
     cases post2 with
     |nil=>exact absurd hc2 hl.ne
     |cons b p=>obtain⟨e1,e2,e3⟩:=hc2;subst e1;rw[w3] at e3;exact⟨p,rfl,e3⟩
    have hlen:wslot ahead 2<σ.words.length:=by have:=hal.slotOf;rw[hs.nw];unfold wslot;omega
    have hoth:∀ k,k<64→¬ k=key→¬ 9+k=wslot ahead 2∧∀ l∈L k,¬ wslot l 2=wslot ahead 2:=fun k hk' e=>by
     refine⟨by unfold wslot;omega,fun l hl'=>wslot_ne (fun e2=>?_)⟩;have o1:=(h.lo k hk' l hl').2;have o2:=(h.lo key hk ahead a1).2;rw[e2,o2] at o1;omega
    have hL3:L key=(pre2++[ahead])++link::post3:=by rw[hL2];simp
    have hda:∀ l∈L key,l≠ahead→¬ slotOf l=slotOf ahead:=fun l hl' hne e=>by
     have:=(split_map (a:=ahead) (by rw[←hL2];exact hnd)).2;refine this (List.mem_map.2 ⟨l,?_,e⟩);rw[hL2] at hl'
     rcases List.mem_append.1 hl' with x|x
     · exact List.mem_append_left _ x
     · exact List.mem_append_right _ ((List.mem_cons.1 x).resolve_left hne)
    have hna:∀ l,l∈pre2∨l∈link::post3→¬ slotOf l=slotOf ahead:=fun l hl' e=>by
     have:=(split_map (a:=ahead) (by rw[←hL2];exact hnd)).2;exact this (List.mem_map.2 ⟨l,List.mem_append.2 hl',e⟩)
    have hc:Chain (σ.put (wslot ahead 2) next) ((σ.put (wslot ahead 2) next).word (9+key)) ((pre2++[ahead])++post3):=by
     rw[put_word,if_neg (by rintro ⟨e,-⟩;unfold wslot at e;omega)];have key2:∀ (pre:List Nat) (h0:Nat),(∀ l∈pre,¬ slotOf l=slotOf ahead)→Chain σ h0 (pre++ahead::link::post3)→Chain (σ.put (wslot ahead 2) next) h0 ((pre++[ahead])++post3):=by
      intro pre
      induction pre with
      |nil=>
       intro h0 _ hc;refine⟨hc.1,hc.2.1,?_⟩;rw[put_word,if_pos ⟨rfl,hlen⟩];refine hc3.cong (fun l hl'=>?_);rw[put_word,if_neg];rintro ⟨e,-⟩;exact wslot_ne (hna l (.inr (List.mem_cons_of_mem _ hl'))) e
      |cons p pre ih=>
       intro h0 hp hc;refine⟨hc.1,hc.2.1,?_⟩;rw[put_word,if_neg (by rintro ⟨e,-⟩;exact wslot_ne (hp p List.mem_cons_self) e)];exact ih _ (fun l hl'=>hp l (List.mem_cons_of_mem _ hl')) hc.2.2
     have hch:=h.ch key hk;rw[hL2] at hch;exact key2 pre2 _ (fun l hl'=>hna l (.inl hl')) hch
    have hap:¬ slotOf link=slotOf ahead:=hna link (.inr List.mem_cons_self);refine⟨upL L key ((pre2++[ahead])++post3),upO O (slotOf link) 200,h.cutOut hk hL3 (Pl.next hal) hlen hc hoth _ σ.seq (fun x hx hox=>?_),fun i hi=>upO_ne (fun e=>?_),fun i hi l e=>?_,fun i hi=>?_⟩
    · refine visitS_sw (fun hn0=>?_) x hx
      rw[upL_self];have hmem:next∈post3:=hc3.first hn0
      refine⟨List.mem_append_right _ hmem,fun _=>⟨by simp,?_⟩⟩;rw[put_word,if_pos ⟨rfl,hlen⟩]
    · rw[e,(h.lo key hk link w1).2] at hi;omega
    · show (σ.put (wslot ahead 2) next).word _=_
      rw[put_word,if_neg];rintro ⟨e2,-⟩;refine wslot_ne (fun e3=>?_) e2;have:=(h.lo key hk ahead a1).2;rw[←e3,e] at this;omega
    · show (σ.put (wslot ahead 2) next).word _=_
      rw[put_word,if_neg];rintro ⟨rfl,-⟩;exact hi (Pl.next hal)
  · rename_i ha0
    split
    · rename_i hh
      obtain⟨rest,hLr,hcr⟩:∃ rest,L key=link::rest∧Chain σ next rest:=by
       have hch:=h.ch key hk;rw[hh] at hch
       cases hLk:L key with
       |nil=>rw[hLk] at hch;exact absurd hch hl.ne
       |cons b p=>rw[hLk] at hch;obtain⟨e1,e2,e3⟩:=hch;subst e1;rw[w3] at e3;exact⟨p,rfl,e3⟩
      have hlen:9+key<σ.words.length:=by rw[hs.nw];omega
      have hww:∀ l,(σ.put (9+key) next).word (wslot l 2)=σ.word (wslot l 2):=fun l=>by
       rw[put_word,if_neg];rintro ⟨e,-⟩;unfold wslot at e;omega
      have hc:Chain (σ.put (9+key) next) ((σ.put (9+key) next).word (9+key)) ([]++rest):=by
       rw[put_word,if_pos ⟨rfl,hlen⟩];exact hcr.cong (fun l _=>hww l)
      have ha00:ahead=0:=by
       by_cases e:ahead=0
       · exact e
       · exact absurd e ha0
      refine⟨upL L key ([]++rest),upO O (slotOf link) 200,h.cutOut hk (pre:=[]) (by rw[hLr];rfl) (Pl.head hk) hlen hc (fun k hk' e=>⟨by omega,fun l _=>by unfold wslot;omega⟩) _ σ.seq (fun x hx hox=>?_),fun i hi=>upO_ne (fun e=>?_),fun i hi l e=>hww l,fun i hi=>?_⟩
      · refine visitS_sw (fun hn0=>?_) x hx
        rw[upL_self];exact⟨hcr.first hn0,fun e=>absurd ha00 e⟩
      · rw[e,(h.lo key hk link w1).2] at hi;omega
      · show (σ.put (9+key) next).word _=_
        rw[put_word,if_neg];rintro ⟨rfl,-⟩;exact hi (Pl.head hk)
    · exact⟨L,O,h.swTo (fun _=>rfl) rfl rfl rfl (fun x hx=>headS_sw (key:=key) x hx),fun _ _=>rfl,fun _ _ _ _=>rfl,fun _ _=>rfl⟩
end
def Pv (N:Nat) (σ:St) (O:Nat→Nat) (s:Nat):K→Prop
 |.fresh l|.next l _ _|.free l _ _|.freeTxn l _ _ _=>l≠0→O (slotOf l)=100+s
 |.slotB _ l _|.slotE _ l _|.push l _|.over l|.overN l _=>O (slotOf l)=100+s
 |.pushC l head|.overC l head=>O (slotOf l)=100+s∧σ.word (wslot l 2)=head
 |.turns tl _=>∀ x∈tl,¬ Pl N x.at_
 |_=>True
def Triv (k:K):Prop:=∀ N σ O s,Pv N σ O s k
structure Left (N s:Nat) (σ:St) (O:Nat→Nat) (τ:St) (ok:Option K) (C':Nat→List Nat) (O':Nat→Nat):Prop where
 cs:CS N τ C' O'
 pv:∀ k,ok=some k→Pv N τ O' s k
 ot:∀ i,64<O i→O i≠100+s→O' i=O i
 ow:∀ l,LK N l→64<O (slotOf l)→O (slotOf l)≠100+s→τ.word (wslot l 2)=σ.word (wslot l 2)
def LeftE (N s:Nat) (σ:St) (O:Nat→Nat) (r:St×Option K):Prop:=∃ C' O',Left N s σ O r.1 r.2 C' O'
section
variable {N L n s d:Nat} {σ τ υ:St} {t:Txn} {c:Cal} {C:Nat→List Nat} {O:Nat→Nat}
theorem CS.listed (h:CS N σ C O) {i:Nat} (hi:O i≠0):σ.listed=true:=by
 cases e:σ.listed with
 |true=>rfl
 |false=>exact absurd (h.ul e i) hi
theorem LeftE.quiet (h:CS N σ C O) (q:Qt N σ τ) {ok:Option K} (hk:∀ k,ok=some k→Pv N τ O s k):LeftE N s σ O (τ,ok):=
 ⟨C,O,h.quiet q,hk,fun _ _ _=>rfl,fun l hl _ _=>q.w _ (Pl.next hl)⟩
theorem LeftE.triv (h:CS N σ C O) (q:Qt N σ τ) {k:K} (hk:Triv k):LeftE N s σ O (τ,some k):=LeftE.quiet h q (fun k' e=>by obtain rfl:=Option.some.inj e;exact hk _ _ _ _)
theorem LeftE.last (h:CS N σ C O) (q:Qt N σ τ):LeftE N s σ O (τ,none):=LeftE.quiet h q (fun k' e=>by cases e)
theorem LeftE.keep (h:CS N σ C O) (q:Qt N σ τ) {k:K} (hk:Pv N τ O s k):LeftE N s σ O (τ,some k):=LeftE.quiet h q (fun k' e=>by obtain rfl:=Option.some.inj e;exact hk)
theorem LeftE.pre (q:Qt N σ τ) {r:St×Option K} (h:LeftE N s τ O r):LeftE N s σ O r:=by
 obtain⟨C',O',h1,h2,h3,h4⟩:=h;exact⟨C',O',h1,h2,h3,fun l hl a b=>(h4 l hl a b).trans (q.w _ (Pl.next hl))⟩
theorem triv_fin (r:Res):Triv (.fin r):=fun _ _ _ _=>trivial
theorem triv_start (h:Hunt):Triv (.start h):=fun _ _ _ _=>trivial
theorem triv_abort (e r:Nat):Triv (.abort e r):=fun _ _ _ _=>trivial
theorem triv_waitK (t:Txn) (i:Nat):Triv (waitK t i):=by unfold waitK;split<;>exact fun _ _ _ _=>trivial
theorem triv_judgeK (t:Txn) (i:Nat):Triv (judgeK t i):=by
 unfold judgeK;simp only
 split
 · exact triv_waitK t 0
 · exact fun _ _ _ _=>trivial
theorem scanN_ch (s:Nat):∀ (k:Nat) (τ:St) (key:Nat),Qt N τ (scanN s k τ key).1∧Triv (scanN s k τ key).2:=by
 intro k
 induction k with
 |zero=>intro τ key;exact⟨Qt.refl N τ,triv_fin _⟩
 |succ k ih=>
  intro τ key;unfold scanN
  split
  · exact⟨Qt.refl N τ,triv_fin _⟩
  · split
    · split
      · obtain⟨a,b⟩:=ih (τ.tell s key (τ.valueOf _)) (key+1)
        exact⟨(Qt.tell τ s key _).trans a,b⟩
      · exact ih τ (key+1)
    · exact⟨Qt.refl N τ,triv_start _⟩
theorem scan_ch (s:Nat) (τ:St) (key:Nat):Qt N τ (τ.scan s key).1∧Triv (τ.scan s key).2:=scanN_ch s _ τ key
theorem thn_ch (s:Nat) (τ:St) (h:Hunt) (link:Nat):Qt N τ (τ.thn s h link).1∧Triv (τ.thn s h link).2:=by
 unfold St.thn
 split
 · simp only
   split
   · exact⟨Qt.read τ s _ _ _,triv_fin _⟩
   · exact⟨Qt.read τ s _ _ _,triv_fin _⟩
 · rename_i key _
   simp only
   split
   · obtain⟨a,b⟩:=scan_ch (N:=N) s (τ.read s key link false) (key+1)
     exact⟨(Qt.read τ s _ _ _).trans a,b⟩
   · obtain⟨a,b⟩:=scan_ch (N:=N) s ((τ.read s key link false).tell s key ((τ.read s key link false).valueOf link)) (key+1)
     exact⟨((Qt.read τ s _ _ _).trans (Qt.tell _ s _ _)).trans a,b⟩
 · simp only
   split
   · exact⟨Qt.read τ s _ _ _,triv_fin _⟩
   · split
     · exact⟨Qt.read τ s _ _ _,triv_fin _⟩
     · split
       · exact⟨Qt.refl N τ,fun _ _ _ _=>fun e=>absurd rfl e⟩
       · exact⟨Qt.refl N τ,fun _ _ _ _=>trivial⟩
 · try simp only
   split
   · exact⟨Qt.refl N τ,triv_abort _ _⟩
   · exact⟨Qt.refl N τ,triv_judgeK _ _⟩
theorem visit_ch (s:Nat) (τ:St) (h:Hunt) (link:Nat):Qt N τ (τ.visit s h link).1∧Triv (τ.visit s h link).2:=by
 unfold St.visit
 split
 · exact thn_ch s τ h 0
 · exact⟨Qt.refl N τ,fun _ _ _ _=>trivial⟩
theorem seen_ch (s:Nat) (τ:St) (h:Hunt) (link mb:Nat):Qt N τ (τ.seen s h link mb).1∧Triv (τ.seen s h link mb).2:=by
 unfold St.seen
 split
 · exact thn_ch s τ h link
 · exact⟨Qt.refl N τ,fun _ _ _ _=>trivial⟩
theorem beginK_ch (s:Nat) (τ:St) (h:Hunt) (link w:Nat):Triv (τ.beginK s h link w):=by
 unfold St.beginK
 split
 · exact fun _ _ _ _=>trivial
 · split<;>exact fun _ _ _ _=>trivial
theorem slot_ch (h:CS N σ C O) (hs:Sh N L n σ) (x:Bool) {link head:Nat} (hl:link≠0→O (slotOf link)=100+s):LeftE N s σ O ((σ.slot s x link head).1,some (σ.slot s x link head).2):=by
 unfold St.slot
 by_cases h0:link=0
 · rw[if_pos h0]
   obtain⟨t1,t2⟩:=h.take hs (100+s);have hw:∀ i,σ.take.1.word i=σ.word i:=fun i=>by unfold St.word;rw[take_words]
   cases e:σ.take with
   |mk σ' o=>
    rw[e] at t1 t2 hw
    cases o with
    |none=>exact⟨C,O,t1 rfl,fun k e=>by obtain rfl:=Option.some.inj e;trivial,fun _ _ _=>rfl,fun l _ _ _=>hw _⟩
    |some l=>
     obtain⟨z,c2⟩:=t2 l rfl;refine⟨C,upO O (slotOf l) (100+s),c2.quiet (Qt.vals _ _),fun k e=>?_,fun i hi _=>upO_ne (by rintro rfl;omega),fun l _ _ _=>hw _⟩;obtain rfl:=Option.some.inj e;exact upO_self _ _ _
 · rw[if_neg h0]
   exact LeftE.keep h (Qt.vals _ _) (hl h0)
theorem freeK_ch (h:CS N σ C O) (hs:Sh N L n σ) {link head at_:Nat} (hl:link≠0→O (slotOf link)=100+s):LeftE N s σ O ((σ.freeK s link head at_).1,some (σ.freeK s link head at_).2):=by
 unfold St.freeK
 split
 · exact slot_ch h hs false hl
 · exact LeftE.keep h (Qt.refl N σ) hl
theorem lost_ch (h:CS N σ C O) {link:Nat} (s8:s<8) (hl:link≠0→O (slotOf link)=100+s):LeftE N s σ O ((σ.lost link).1,some (σ.lost link).2):=by
 unfold St.lost;simp only
 split
 · rename_i h0
   have e:=hl h0;refine⟨C,upO O (slotOf link) 0,h.give (by omega) (by omega) (h.listed (i:=slotOf link) (by omega)),fun k e=>by obtain rfl:=Option.some.inj e;trivial,fun i hi hne=>upO_ne (by rintro rfl;exact hne e),fun l _ _ _=>by unfold St.word;rw[give_words]⟩
 · exact LeftE.triv h (Qt.refl N σ) (triv_abort _ _)
theorem nextPut_ch (h:CS N σ C O) (hs:Sh N L n σ) (s8:s<8) {link head:Nat} (hl:LK N link) (ho:O (slotOf link)=100+s) {k:K} (hk:∀ τ O,O (slotOf link)=100+s→τ.word (wslot link 2)=head→Pv N τ O s k):LeftE N s σ O (σ.put (wslot link 2) head,some k):=by
 have hlen:wslot link 2<σ.words.length:=by have:=hl.slotOf;rw[hs.nw];unfold wslot;omega
 refine⟨C,O,h.next (.inr (by omega)),fun k' e=>?_,fun _ _ _=>rfl,fun l _ _ hne=>?_⟩
 · obtain rfl:=Option.some.inj e
   exact hk _ _ ho (by show (σ.put _ _).word _=_;rw[put_word,if_pos ⟨rfl,hlen⟩])
 · show (σ.put _ _).word _=_
   rw[put_word,if_neg];rintro ⟨e,-⟩;exact wslot_ne (fun e2=>hne (by rw[e2];exact ho)) e
theorem pushCas_ch (h:CS N σ C O) (hs:Sh N L n σ) (s8:s<8) {key link head:Nat} (hkey:key<64) (hl:LK N link) (ho:O (slotOf link)=100+s) (hw:σ.word (wslot link 2)=head) (hh:σ.word (9+key)=head) {ok:Option K} (hk:∀ k,ok=some k→Triv k) (q:Qt N (σ.put (9+key) link) τ):LeftE N s σ O (τ,ok):=by
 have hlen:9+key<σ.words.length:=by rw[hs.nw];omega
 have h2:=h.push hkey hl (by omega) (by omega) hw hh hlen (h.listed (i:=slotOf link) (by omega));refine⟨_,_,h2.quiet q,fun k e=>hk k e _ _ _ _,fun i hi hne=>upO_ne (by rintro rfl;exact hne ho),fun l hl' _ _=>?_⟩;refine (q.w _ (Pl.next hl')).trans ?_;rw[put_word,if_neg];rintro ⟨e,-⟩;unfold wslot at e;omega
theorem commit_pl (σ:St) (t:Txn):∀ x∈commitTurns σ t,¬ Pl N x.at_:=by
 intro x hx;unfold commitTurns at hx;rw[List.mem_flatMap] at hx;obtain⟨key,_,hx⟩:=hx;simp only at hx;rw[List.mem_append] at hx
 rcases hx with hx|hx
 · split at hx
   · rcases List.mem_cons.1 hx with rfl|hx
     · exact noPl_slot (by omega)
     · split at hx
       · cases hx
       · simp at hx;subst hx;exact noPl_slot (by omega)
   · cases hx
 · split at hx
   · simp at hx;subst hx;exact noPl_slot (by omega)
   · cases hx
theorem abort_pl (σ:St) (t:Txn):∀ x∈abortTurns σ t,¬ Pl N x.at_:=by
 intro x hx;unfold abortTurns at hx;rw[List.mem_flatMap] at hx;obtain⟨key,_,hx⟩:=hx;simp only at hx
 split at hx
 · simp at hx;subst hx;exact noPl_slot (by omega)
 · cases hx
end
section
variable {N L n s d:Nat} {σ τ υ:St} {t:Txn} {c:Cal} {C:Nat→List Nat} {O:Nat→Nat}
theorem LeftE.two (h:CS N σ C O) (q:Qt N σ τ) {r:St×K} (a:Qt N τ r.1∧Triv r.2):LeftE N s σ O (r.1,some r.2):=LeftE.triv h (q.trans a.1) a.2
set_option maxHeartbeats 1600000 in
theorem run_ch (m:Mid N L n s 0 σ σ t c) {k:K} (hk:KOk N L t c k) (h:CS N σ C O) (hp:Pv N σ O s k):LeftE N s σ O (σ.run s k):=by
 have ec:=m.ec;have et:=m.et;have hs:=m.sh;have s8:=m.s8;have ht:CS N σ.tick C O:=h.quiet (Qt.tick σ);have qt:=Qt.tick (N:=N) σ;have hst:Sh N L n σ.tick:=hs.tick
 cases k with
 |fin r=>exact LeftE.last h (Qt.finish σ s r)
 |start hh=>exact LeftE.two h qt (visit_ch s σ.tick hh _)
 |visit hh link=>exact LeftE.triv h qt (beginK_ch s _ hh link _)
 |older hh link=>exact LeftE.two h qt (visit_ch s σ.tick hh _)
 |maker hh link id=>
  simp only[St.run]
  split
  · exact LeftE.triv h qt (fun _ _ _ _=>trivial)
  split<;>exact LeftE.triv h qt (fun _ _ _ _=>trivial)
 |ended hh link mb=>
  simp only[St.run]
  split
  · exact LeftE.triv h qt (fun _ _ _ _=>trivial)
  split
  · exact LeftE.two h qt (seen_ch s σ.tick hh link mb)
  · exact LeftE.triv h qt (fun _ _ _ _=>trivial)
 |ender hh link mb id=>
  simp only[St.run]
  split
  · exact LeftE.two h qt (seen_ch s σ.tick hh link mb)
  split
  · exact LeftE.triv h (qt.trans (Qt.bind _ s id)) (fun _ _ _ _=>trivial)
  · exact LeftE.triv h qt (fun _ _ _ _=>trivial)
 |seen hh link mb=>
  simp only[St.run]
  split
  · exact LeftE.triv h qt (fun _ _ _ _=>trivial)
  · split
    · exact LeftE.two h (qt.trans (Qt.bind _ s mb)) (thn_ch s _ hh link)
    · exact LeftE.two h qt (thn_ch s _ hh link)
 |again en=>
  simp only[St.run];have q1:∀ a b,Qt N σ ((σ.put (wslot a 1) b)):=fun a b=>Qt.put (noPl_slot (by omega))
  split
  · exact LeftE.triv h (((q1 _ _).trans (Qt.setT _ s _)).trans (Qt.vals _ _)) (triv_fin _)
  · exact LeftE.triv h ((q1 _ _).trans (Qt.setT _ s _)) (triv_fin _)
 |own link=>
  simp only[St.run]
  split
  · exact LeftE.triv h qt (fun _ _ _ _=>trivial)
  split<;>exact LeftE.triv h qt (fun _ _ _ _=>trivial)
 |ownTxn link w id=>
  simp only[St.run]
  split<;>exact LeftE.triv h qt (fun _ _ _ _=>trivial)
 |claim link w=>
  simp only[St.run];have q1:Qt N σ (σ.cas (wslot link 1) w (mine (σ.t s))):=Qt.cas (noPl_slot (by omega));have hs1:Sh N L n (σ.cas (wslot link 1) w (mine (σ.t s))):=by
   rw[et];exact hs.cas (slot_ok (w:=1) hk.1 (by omega) (mine_lt m.t1) (Wd_mine m.t1))
  split
  · exact LeftE.triv h q1 (fun _ _ _ _=>trivial)
  · split
    · exact LeftE.triv h (q1.trans (Qt.setT _ s _)) (triv_fin _)
    · have q2:=q1.trans (Qt.setT (σ.cas (wslot link 1) w (mine (σ.t s))) s {(σ.cas (wslot link 1) w (mine (σ.t s))).t s with cells:=(((σ.cas (wslot link 1) w (mine (σ.t s))).c s).op.key,(⟨0,link,false⟩:Cel))::((σ.cas (wslot link 1) w (mine (σ.t s))).t s).cells,keys:=((σ.cas (wslot link 1) w (mine (σ.t s))).t s).keys++[((σ.cas (wslot link 1) w (mine (σ.t s))).c s).op.key]})
      exact LeftE.pre q2 (slot_ch (h.quiet q2) (hs1.setT s _) true (fun e=>absurd rfl e))
 |fresh link=>
  simp only[St.run];exact LeftE.pre qt (freeK_ch ht hst hp)
 |next link head at_=>
  simp only[St.run];exact LeftE.pre qt (freeK_ch ht hst hp)
 |free link head at_=>
  simp only[St.run]
  split
  · exact LeftE.keep h qt hp
  split
  · exact LeftE.pre qt (lost_ch ht s8 hp)
  · exact LeftE.keep h qt hp
 |freeTxn link head at_ id=>
  simp only[St.run]
  split
  · exact LeftE.keep h qt hp
  · exact LeftE.pre qt (lost_ch ht s8 hp)
 |slotB x link head=>exact LeftE.keep h (Qt.put (noPl_slot (by omega))) hp
 |slotE x link head=>
  have q1:Qt N σ (σ.put (wslot link 1) ever):=Qt.put (noPl_slot (by omega))
  cases x with
  |true=>exact LeftE.keep h q1 hp
  |false=>exact LeftE.keep h q1 hp
 |push link head=>exact nextPut_ch h hs s8 hk.1 hp (fun τ O a b=>⟨a,b⟩)
 |overN link head=>exact nextPut_ch h hs s8 hk.1 hp (fun τ O a b=>⟨a,b⟩)
 |pushC link head=>
  obtain⟨hl,_,_,hkk⟩:=hk;obtain⟨p1,p2⟩:=hp;simp only[St.run,ec]
  split
  · rename_i hne
    have e:σ.cas (9+c.op.key) head link=σ.tick:=by unfold St.cas;rw[if_neg hne]
    rw[e];exact LeftE.keep h qt (fun _=>p1)
  · rename_i hne
    have hh:σ.word (9+c.op.key)=head:=by
     by_cases e:σ.word (9+c.op.key)=head
     · exact e
     · exact absurd e hne
    have e:σ.cas (9+c.op.key) head link=σ.put (9+c.op.key) link:=by unfold St.cas;rw[if_pos hh]
    rw[e];exact pushCas_ch h hs s8 hkk hl p1 p2 hh (fun k e=>by obtain rfl:=Option.some.inj e;exact triv_fin _) (Qt.setT _ s _)
 |over link=>exact LeftE.keep h qt hp
 |overC link head=>
  obtain⟨hl,_,_,hkk⟩:=hk;obtain⟨p1,p2⟩:=hp;simp only[St.run,ec]
  split
  · rename_i hne
    have e:σ.cas (9+c.op.key) head link=σ.tick:=by unfold St.cas;rw[if_neg hne]
    rw[e];exact LeftE.keep h qt p1
  · rename_i hne
    have hh:σ.word (9+c.op.key)=head:=by
     by_cases e:σ.word (9+c.op.key)=head
     · exact e
     · exact absurd e hne
    have e:σ.cas (9+c.op.key) head link=σ.put (9+c.op.key) link:=by unfold St.cas;rw[if_pos hh]
    rw[e];exact pushCas_ch h hs s8 hkk hl p1 p2 hh (fun k e=>by obtain rfl:=Option.some.inj e;exact triv_fin _) (Qt.setT _ s _)
 |draw=>
  simp only[St.run]
  split
  · exact LeftE.triv h qt (triv_abort _ _)
  split<;>exact LeftE.triv h qt (fun _ _ _ _=>trivial)
 |drawH w now=>exact LeftE.triv h (Qt.help hs.sl w) (fun _ _ _ _=>trivial)
 |turn w now=>
  simp only[St.run];have q1:∀ a b,Qt N σ (σ.cas 0 a b):=fun a b=>Qt.cas noPl_clock
  split
  · exact LeftE.triv h (q1 _ _) (fun _ _ _ _=>trivial)
  · exact LeftE.triv h (((q1 _ _).trans (Qt.setT _ s _)).trans (Qt.event _ _)) (fun _ _ _ _=>trivial)
 |helpJ=>exact LeftE.triv h (Qt.help hs.sl _) (triv_judgeK _ _)
 |wait i=>
  simp only[St.run]
  split
  · exact LeftE.triv h qt (triv_waitK _ _)
  split
  · exact LeftE.triv h qt (triv_abort _ _)
  · exact LeftE.triv h (qt.trans (Qt.setC _ s _)) (fun _ _ _ _=>trivial)
 |commit=>
  have q1:Qt N σ (σ.put (σ.place (σ.t s).id) (pack 3 (σ.t s).end_)):=Qt.put (by rw[hs.place];exact noPl_place);exact LeftE.keep h (q1.trans (Qt.tellEnd _ s _)) (commit_pl _ _)
 |abort e reason=>
  have q1:Qt N σ (σ.put (σ.place (σ.t s).id) (pack 4 (σ.t s).end_)):=Qt.put (by rw[hs.place];exact noPl_place);exact LeftE.keep h (q1.trans (Qt.tellEnd _ s _)) (abort_pl _ _)
 |turns tl r=>
  cases tl with
  |nil=>exact LeftE.last h ((Qt.put (noPl_live s8)).trans (Qt.finish _ s r))
  |cons x tl=>
   have hx:=hp x List.mem_cons_self;simp only[St.run]
   split
   · exact LeftE.keep h (Qt.put hx) (fun y hy=>hp y (List.mem_cons_of_mem _ hy))
   · exact LeftE.keep h (Qt.cas hx) (fun y hy=>hp y (List.mem_cons_of_mem _ hy))
end
def WC (N:Nat) (σ:St):Prop:=∃ C O,CS N σ C O∧∀ q c k,σ.calls.getD q none=some c→c.k=some k→Pv N σ O q k
section
variable {N L n s d:Nat} {σ τ υ:St} {t:Txn} {c:Cal} {C:Nat→List Nat} {O O':Nat→Nat}
theorem others_iff {σ σ2:St} {s:Nat} (h:okOthers σ σ2 s=true):∀ q,q≠s→σ2.calls.getD q none=σ.calls.getD q none:=by
 intro q hq;unfold okOthers at h;simp only[Bool.and_eq_true,decide_eq_true_eq,List.all_eq_true,List.mem_range,Bool.or_eq_true,beq_iff_eq] at h
 by_cases h8:q<8
 · exact (h.2 q h8).resolve_left hq
 · simp[List.getD_eq_getElem?_getD,List.getElem?_eq_none (show σ2.calls.length≤q by omega),List.getElem?_eq_none (show σ.calls.length≤q by omega)]
theorem Pv.other {q:Nat} {k:K} (hp:Pv N σ O q k) (hq:∀ i,O i=100+q→O' i=O i) (hw:∀ l head,(k=.pushC l head∨k=.overC l head)→O (slotOf l)=100+q→τ.word (wslot l 2)=σ.word (wslot l 2)):Pv N τ O' q k:=by
 cases k with
 |fresh l=>exact fun h=>(hq _ (hp h)).trans (hp h)
 |next l _ _=>exact fun h=>(hq _ (hp h)).trans (hp h)
 |free l _ _=>exact fun h=>(hq _ (hp h)).trans (hp h)
 |freeTxn l _ _ _=>exact fun h=>(hq _ (hp h)).trans (hp h)
 |slotB _ l _=>exact (hq _ hp).trans hp
 |slotE _ l _=>exact (hq _ hp).trans hp
 |push l _=>exact (hq _ hp).trans hp
 |over l=>exact (hq _ hp).trans hp
 |overN l _=>exact (hq _ hp).trans hp
 |pushC l head=>exact⟨(hq _ hp.1).trans hp.1,(hw l head (.inl rfl) hp.1).trans hp.2⟩
 |overC l head=>exact⟨(hq _ hp.1).trans hp.1,(hw l head (.inr rfl) hp.1).trans hp.2⟩
 |turns tl r=>exact hp
 |_=>trivial
theorem Pv.same {q:Nat} {k:K} (hp:Pv N σ O q k) (hw:∀ i,Pl N i→τ.word i=σ.word i) (hk:∀ l head,(k=.pushC l head∨k=.overC l head)→LK N l):Pv N τ O q k:=
 hp.other (fun _ _=>rfl) (fun l head e _=>hw _ (Pl.next (hk l head e)))
theorem KOk.lk {k:K} (h:KOk N L t c k):∀ l head,(k=.pushC l head∨k=.overC l head)→LK N l:=by
 rintro l head (rfl|rfl)
 · exact h.1
 · exact h.1
theorem WF.klk (h:WF N L n σ) {q:Nat} {c:Cal} {k:K} (hc:σ.calls.getD q none=some c) (hk:c.k=some k):∀ l head,(k=.pushC l head∨k=.overC l head)→LK N l:=by
 obtain⟨t,ht,hx⟩:=h.cx q c hc;obtain⟨k',e,hk'⟩:=hx.k;rw[hk] at e;obtain rfl:=Option.some.inj e;exact hk'.lk
theorem WC.after (h:WF N L n σ) (hw:WC N σ) (hs:s<8) {ok:Option K} {C':Nat→List Nat} (h0:∀ C O,CS N σ C O→(∀ q c k,σ.calls.getD q none=some c→c.k=some k→Pv N σ O q k)→LeftE N s σ O (τ,ok))
 (hq:Qt N τ υ) (ho:∀ q,q≠s→υ.calls.getD q none=σ.calls.getD q none) (hself:∀ c k,υ.calls.getD s none=some c→c.k=some k→ok=some k) (hlk:∀ k,ok=some k→∀ l head,(k=.pushC l head∨k=.overC l head)→LK N l):WC N υ:=by
 obtain⟨C,O,hc,hp⟩:=hw;obtain⟨C',O',h1,h2,h3,h4⟩:=h0 C O hc hp;refine⟨C',O',h1.quiet hq,fun q c k hcq hk=>?_⟩
 by_cases e:q=s
 · subst e
   have e1:=hself c k hcq hk;exact (h2 k e1).same hq.w (hlk k e1)
 · rw[ho q e] at hcq
   have hl:=h.klk hcq hk;exact ((hp q c k hcq hk).other (fun i hi=>h3 i (by omega) (by omega)) (fun l head e1 e2=>h4 l (hl l head e1) (by omega) (by omega))).same hq.w hl
theorem WC.step (h:WF N L n σ) (hw:WC N σ) (hs:s<8) {σ1:St} {kd:Nat} {r:Res} (hst:oneStep σ s=some (σ1,kd,r)):WC N σ1:=by
 unfold oneStep at hst
 split at hst
 · rename_i t0 c ht hc
   split at hst
   · rename_i k0 hk0
     obtain⟨t,k,hk,ht2,m,ho,hr,hkk⟩:=h.mid hs hc;rw[hk0] at hk;obtain rfl:=Option.some.inj hk;obtain⟨d,hd,hran⟩:=run_ran m ho hr rfl hkk
     split at hst
     rename_i σ2 ok e;rw[e] at hran
     split at hst
     · rename_i c2 hc2
       split at hst
       · rename_i hcond
         have hoth:=others_iff hcond.2.1;have hleft:∀ C O,CS N σ C O→(∀ q c k,σ.calls.getD q none=some c→c.k=some k→Pv N σ O q k)→LeftE N s σ O (σ2,ok):=by
          intro C O hcs hp;have q0:Qt N σ (σ.setC s {c with waits:=false}):=Qt.setC σ s _;have hx:=run_ch m hkk (hcs.quiet q0) ((hp s c k0 hc hk0).same q0.w hkk.lk);rw[e] at hx;exact LeftE.pre q0 hx
         have hl8:s<σ2.calls.length:=by
          cases hh:decide (s<σ2.calls.length) with
          |true=>simpa using hh
          |false=>
           have hh':¬ s<σ2.calls.length:=by simpa using hh
           rw[List.getD_eq_getElem?_getD,List.getElem?_eq_none (by omega)] at hc2
           cases hc2
         have hlk:∀ k,ok=some k→∀ l head,(k=.pushC l head∨k=.overC l head)→LK N l:=by
          intro k ek;subst ek;obtain⟨t2,c2',m2,h1,h2,h3⟩:=hran;exact h3.lk
         have hset:∀ (x:Option Cal) q,(σ2.calls.set s x).getD q none=if q=s then x else σ2.calls.getD q none:=fun x q=>getD_setO _ _ _ _ hl8
         unfold afterStep at hst
         split at hst
         · rename_i k'
           split at hst
           · obtain⟨rfl,-⟩:=Prod.mk.injEq _ _ _ _ ▸ Option.some.inj hst
             refine WC.after (C':=fun _=>[]) h hw hs hleft ⟨fun _ _=>rfl,rfl,rfl,rfl,rfl,rfl⟩ (fun q hq=>?_) (fun c k e1 e2=>?_) hlk
             · show (σ2.calls.set s _).getD q none=_
               rw[hset,if_neg hq];exact hoth q hq
             · change (σ2.calls.set s _).getD s none=some c at e1
               rw[hset,if_pos rfl] at e1;obtain rfl:=Option.some.inj e1;exact e2
           · cases hst
         · split at hst
           · split at hst
             · split at hst
               · split at hst
                 · obtain⟨rfl,-⟩:=Prod.mk.injEq _ _ _ _ ▸ Option.some.inj hst
                   refine WC.after (C':=fun _=>[]) h hw hs hleft ⟨fun _ _=>rfl,rfl,rfl,rfl,rfl,rfl⟩ (fun q hq=>?_) (fun c k e1 e2=>?_) hlk
                   · show ((σ2.calls.set s _).set s none).getD q none=_
                     rw[getD_setO _ _ _ _ (by rw[List.length_set];exact hl8),if_neg hq,hset,if_neg hq];exact hoth q hq
                   · change ((σ2.calls.set s _).set s none).getD s none=some c at e1
                     rw[getD_setO _ _ _ _ (by rw[List.length_set];exact hl8),if_pos rfl] at e1
                     cases e1
                 · cases hst
               · cases hst
             · split at hst
               · obtain⟨rfl,-⟩:=Prod.mk.injEq _ _ _ _ ▸ Option.some.inj hst
                 refine WC.after (C':=fun _=>[]) h hw hs hleft ⟨fun _ _=>rfl,rfl,rfl,rfl,rfl,rfl⟩ (fun q hq=>?_) (fun c k e1 e2=>?_) hlk
                 · show ((σ2.calls.set s _).set s none).getD q none=_
                   rw[getD_setO _ _ _ _ (by rw[List.length_set];exact hl8),if_neg hq,hset,if_neg hq];exact hoth q hq
                 · change ((σ2.calls.set s _).set s none).getD s none=some c at e1
                   rw[getD_setO _ _ _ _ (by rw[List.length_set];exact hl8),if_pos rfl] at e1
                   cases e1
               · cases hst
           · cases hst
       · cases hst
     · cases hst
   · cases hst
 · cases hst
end
section
variable {N L n s d:Nat} {σ τ υ:St} {t:Txn} {c:Cal} {C:Nat→List Nat} {O O':Nat→Nat}
theorem first_ch (h:CS N σ C O) (hs:Sh N L n σ):LeftE N s σ O ((σ.first s).1,some (σ.first s).2):=by
 unfold St.first;simp only
 split
 · split
   · refine LeftE.triv h (Qt.refl N σ) ?_
     split<;>exact triv_fin _
   · exact LeftE.triv h (Qt.refl N σ) (triv_start _)
 · exact LeftE.two h (Qt.refl N σ) (scan_ch s σ _)
 · exact LeftE.triv h (Qt.refl N σ) (fun _ _ _ _=>trivial)
 · exact LeftE.triv h (Qt.refl N σ) (triv_abort _ _)
 · split
   · split
     · exact LeftE.triv h (Qt.refl N σ) (triv_fin _)
     · split
       · exact LeftE.triv h (Qt.refl N σ) (triv_fin _)
       · split
         · exact slot_ch h hs true (fun e=>absurd rfl e)
         · exact LeftE.triv h (Qt.refl N σ) (fun _ _ _ _=>trivial)
   · exact LeftE.triv h (Qt.refl N σ) (triv_start _)
theorem issueSt_qt (σ:St) (s:Nat) (o:En.Op) (t:Txn):Qt N σ (issueSt σ s o t):=by
 unfold issueSt
 split<;>exact⟨fun _ _=>rfl,rfl,rfl,rfl,rfl,rfl⟩
theorem WC.issue (h:WF N L n σ) (hw:WC N σ) (hs:s<8) {o:En.Op} {σ1:St} (hi:issueOk σ s o=some σ1):WC N σ1:=by
 unfold issueOk at hi
 split at hi
 · rename_i t ht
   split at hi
   · rename_i hcond
     obtain⟨ho,hcn,hop,hsq,hl8,hl8',hf⟩:=hcond;have m:=h.imid hs ht o ho (hop.imp id (·.1));have hout:=first_out m rfl rfl
     split at hi
     rename_i σ4 k e
     split at hi
     · rename_i c4 hc4
       split at hi
       · rename_i hoth
         obtain rfl:=Option.some.inj hi;have hoth':=others_iff hoth;have hl4:s<σ4.calls.length:=by
          cases hh:decide (s<σ4.calls.length) with
          |true=>simpa using hh
          |false=>
           have hh':¬ s<σ4.calls.length:=by simpa using hh
           rw[List.getD_eq_getElem?_getD,List.getElem?_eq_none (by omega)] at hc4
           cases hc4
         rw[e] at hout;refine WC.after (C':=fun _=>[]) (τ:=σ4) (ok:=some k) h hw hs (fun C O hcs hp=>?_) (Qt.setC σ4 s _) (fun q hq=>?_) (fun c k' e1 e2=>?_) (fun k' ek=>?_)
         · have hx:=first_ch (s:=s) (hcs.quiet (issueSt_qt σ s o t)) m.sh
           rw[e] at hx;exact LeftE.pre (issueSt_qt σ s o t) hx
         · show (σ4.calls.set s _).getD q none=_
           rw[getD_setO _ _ _ _ hl4,if_neg hq];exact hoth' q hq
         · change (σ4.calls.set s _).getD s none=some c at e1
           rw[getD_setO _ _ _ _ hl4,if_pos rfl] at e1;obtain rfl:=Option.some.inj e1;exact e2
         · obtain rfl:=Option.some.inj ek
           obtain⟨t2,c2,m2,h1,h2,h3⟩:=hout;exact h3.lk
       · cases hi
     · cases hi
   · cases hi
 · cases hi
theorem WC.quiet (h:WF N L n σ) (hw:WC N σ) (q:Qt N σ τ) (hc:τ.calls=σ.calls):WC N τ:=by
 obtain⟨C,O,h1,h2⟩:=hw;refine⟨C,O,h1.quiet q,fun p c k e1 e2=>?_⟩;rw[hc] at e1;exact (h2 p c k e1 e2).same q.w (h.klk e1 e2)
theorem beginSt_qt (hs:s<8) (hsl:σ.slots=N) {σ2:St} (q:Qt N σ σ2) (level:Nat):Qt N σ (beginSt σ s level σ2):=by
 unfold beginSt;refine q.trans (Qt.trans (τ:=({σ2 with made:=σ.made+1}:St)) ⟨fun _ _=>rfl,rfl,rfl,rfl,rfl,rfl⟩ ?_);refine ((((Qt.cas noPl_clock).trans (Qt.put ?_)).trans (Qt.put (noPl_live hs))).trans (Qt.setT _ s _)).trans (Qt.event _ _);have:σ.place (σ.made+1)=73+N*3+(σ.made+1):=by unfold St.place;rw[hsl]
 rw[this];exact noPl_place
theorem cas_calls' (σ:St) (i a b:Nat):(σ.cas i a b).calls=σ.calls:=by unfold St.cas;split<;>rfl
theorem beginSt_calls (σ:St) (s level:Nat) (σ2:St):(beginSt σ s level σ2).calls=σ2.calls:=by
 unfold beginSt;show (({σ2 with made:=σ.made+1}:St).cas 0 _ _).calls=_;rw[cas_calls']
theorem WC.begin_ (h:WF N L n σ) (hw:WC N σ) (hs:s<8) {level id:Nat} {σ1:St} (hb:beginOk σ s level=some (σ1,id)):WC N σ1:=by
 unfold beginOk at hb
 split at hb
 · split at hb
   · obtain⟨rfl,-⟩:=Prod.mk.injEq _ _ _ _ ▸ Option.some.inj hb
     exact hw.quiet h (beginSt_qt hs h.sh.sl (Qt.tick σ) level) (beginSt_calls _ _ _ _)
   · split at hb
     · obtain⟨rfl,-⟩:=Prod.mk.injEq _ _ _ _ ▸ Option.some.inj hb
       refine hw.quiet h (beginSt_qt hs h.sh.sl ((Qt.tick σ).trans (Qt.help (σ:=σ.tick) h.sh.sl _)) level) ((beginSt_calls _ _ _ _).trans ?_);unfold St.help;rw[cas_calls'];rfl
     · cases hb
 · cases hb
theorem CS.giveCut (h:CS N σ C O) {link seq:Nat} {rest:List (Nat×Nat)} (hc:σ.cut=(link,seq)::rest):CS N {σ.give link with cut:=rest} C (upO O (slotOf link) 0):=by
 have h0:=h.ct (link,seq) (by rw[hc];exact List.mem_cons_self);have h200:O (slotOf link)=200:=h0.2;have hcn:=h.cn;rw[hc,List.map_cons,List.nodup_cons] at hcn;have hg:(σ.give link).listed=σ.listed∧(σ.give link).sw=σ.sw∧∀ i∈(σ.give link).free,i∈σ.free∨i=slotOf link:=by
  unfold St.give
  split
  · simp only
    split
    · exact⟨rfl,rfl,fun i hi=>.inl hi⟩
    · refine⟨rfl,rfl,fun i hi=>?_⟩
      change i∈σ.free++[slotOf link] at hi
      rcases List.mem_append.1 hi with hi|hi
      · exact .inl hi
      · simp at hi;exact .inr hi
  · exact⟨rfl,rfl,fun i hi=>.inl hi⟩
 have hwd:∀ i,({σ.give link with cut:=rest}:St).word i=σ.word i:=fun i=>by
  show (σ.give link).word i=_;unfold St.word;rw[give_words]
 refine⟨fun key hk=>?_,h.nd,fun key hk l hl=>?_,fun p hp=>?_,hcn.2,fun i hi=>?_,fun e=>?_,fun x hx ho=>?_⟩
 · rw[hwd]
   exact (h.ch key hk).cong (fun _ _=>hwd _)
 · obtain⟨a,b⟩:=h.lo key hk l hl
   exact⟨a,(upO_ne (by intro e;rw[e,h200] at b;omega)).trans b⟩
 · have hp':p∈σ.cut:=by rw[hc];exact List.mem_cons_of_mem _ hp
   obtain⟨a,b⟩:=h.ct p hp';exact⟨a,(upO_ne (fun e=>hcn.1 (List.mem_map.2 ⟨p,hp,e⟩))).trans b⟩
 · rcases hg.2.2 i hi with hi|rfl
   · by_cases e:i=slotOf link
     · subst e;exact upO_self _ _ _
     · rw[upO_ne e];exact h.fr i hi
   · exact upO_self _ _ _
 · have e':σ.listed=false:=hg.1.symm.trans e
   rw[h.ul e' (slotOf link)] at h200
   cases h200
 · have hx':σ.sw=some x:=hg.2.1.symm.trans hx
   exact (h.sw x hx' ho).cong (fun _ _ _ _=>hwd _) ho
theorem WF.q8 (h:WF N L n σ) {q:Nat} {c:Cal} (hc:σ.calls.getD q none=some c):q<8:=by
 by_cases e:q<8
 · exact e
 · rw[List.getD_eq_getElem?_getD,List.getElem?_eq_none (by rw[h.sh.c8];omega)] at hc
   cases hc
theorem WC.sweep (h:WF N L n σ) (hw:WC N σ):WC N σ.sweep.1:=by
 have hgo:WC N (St.sweep.go σ).1:=by
  obtain⟨C,O,h1,h2⟩:=hw;have hx:SOk N (σ.sw.getD .now)∧SwC σ C (σ.sw.getD .now):=by
   cases e:σ.sw with
   |none=>exact⟨trivial,trivial⟩
   |some x=>exact⟨h.sx.so x e,h1.sw x e (h.sx.so x e)⟩
  obtain⟨C',O',g1,g2,g3,g4⟩:=h1.sweepRun h.sh hx.1 hx.2;obtain⟨e1,e2,e3,e4,e5,e6,e7⟩:=sweepRun_count σ (σ.sw.getD .now);unfold St.sweep.go;simp only;refine⟨C',O',g1.quiet ⟨fun _ _=>rfl,rfl,rfl,rfl,rfl,rfl⟩,fun q c k hc hk=>?_⟩;have hc':σ.calls.getD q none=some c:=by rw[←e1];exact hc
  have hq:=h.q8 hc';exact (h2 q c k hc' hk).other (fun i hi=>g2 i (by omega)) (fun l head _ hl=>g3 (slotOf l) (by omega) l rfl)
 unfold St.sweep
 split
 · rename_i link seq rest hcut
   split
   · obtain⟨C,O,h1,h2⟩:=hw
     have h200:O (slotOf link)=200:=(h1.ct (link,seq) (by rw[hcut];exact List.mem_cons_self)).2;refine⟨C,_,h1.giveCut hcut,fun q c k hc hk=>?_⟩;have hc':σ.calls.getD q none=some c:=by rw[←(give_txns σ link).2.1];exact hc
     have hq:=h.q8 hc';refine (h2 q c k hc' hk).other (fun i hi=>upO_ne (by rintro rfl;omega)) (fun l head _ hl=>?_);show (σ.give link).word _=_;unfold St.word;rw[give_words]
   · exact hgo
 · exact hgo
theorem WC.list (h:WF N L n σ) (hw:WC N σ):WC N σ.list:=by
 obtain⟨C,O,h1,h2⟩:=hw;have hwd:∀ i,σ.list.word i=σ.word i:=fun i=>by
  have e:σ.list.words=σ.words:=by unfold St.list;split<;>rfl
  unfold St.word;rw[e]
 refine⟨C,O,h1.list,fun q c k hc hk=>?_⟩;rw[(list_txns σ).2.1] at hc;exact (h2 q c k hc hk).same (fun i _=>hwd i) (h.klk hc hk)
theorem WC.tick (h:WF N L n σ) (hw:WC N σ):WC N σ.tick:=hw.quiet h (Qt.tick σ) rfl
theorem WC.new (N L:Nat):WC N (new N L):=by
 have hwd:∀ i,(En.new N L).word i=0:=fun i=>by
  unfold St.word;show (List.replicate _ 0).getD i 0=0;rw[List.getD_eq_getElem?_getD,List.getElem?_replicate]
  split<;>rfl
 refine⟨fun _=>[],fun _=>0,⟨fun key _=>hwd _,fun _ _=>List.nodup_nil,fun _ _ l hl=>(by cases hl),fun p hp=>(by cases hp),List.nodup_nil,fun _ _=>rfl,fun _ _=>rfl,fun x hx=>(by cases hx)⟩,fun q c k hc=>?_⟩;exfalso;change (List.replicate 8 none).getD q none=some c at hc;rw[List.getD_eq_getElem?_getD,List.getElem?_replicate] at hc
 split at hc<;>cases hc
theorem okWord_of (h:Sh N L n σ) {i:Nat} (hd:Wd (σ.word i)):okWord σ (σ.word i)=true:=by
 unfold okWord;simp only[Bool.and_eq_true,Bool.or_eq_true,decide_eq_true_eq];refine⟨(h.wd i).u,?_⟩
 by_cases e:(rd (σ.word i)).1=2
 · exact .inr ⟨hd e,small_of h _⟩
 · left;simpa using e
theorem chainOk_of (h:Sh N L n σ):∀ (ls:List Nat) (m hd:Nat),Chain σ hd ls→(∀ l∈ls,LK N l)→ls.length<m→chainOk σ m hd=true:=by
 intro ls
 induction ls with
 |nil=>
  intro m hd hc _ hm
  cases m with
  |zero=>omega
  |succ m=>
   have:hd=0:=hc;subst this;unfold chainOk;rfl
 |cons l ls ih=>
  intro m hd hc hl hm
  cases m with
  |zero=>omega
  |succ m=>
   obtain⟨e1,e2,e3⟩:=hc;subst e1;have hlk:=hl hd List.mem_cons_self;obtain⟨d0,d1,-⟩:=h.slot hlk;unfold chainOk;simp only[Bool.or_eq_true,Bool.and_eq_true];exact .inr ⟨⟨⟨vl_of hlk h.sl,okWord_of h d0⟩,okWord_of h d1⟩,.inr (ih m _ e3 (fun l' hl'=>hl l' (List.mem_cons_of_mem _ hl')) (by simp at hm;omega))⟩
theorem WC.okPairs (h:WF N L n σ) (hw:WC N σ):okPairs σ=true:=by
 obtain⟨C,O,h1,-⟩:=hw;unfold Em.okPairs;rw[List.all_eq_true];intro key hk;have hk':key<64:=by simpa using hk
 have hlen : ((C key).map slotOf).length ≤ N := nodup_lt N _ (h1.nd key hk') (fun x hx => by
   obtain⟨l,hl,rfl⟩:=List.mem_map.1 hx
   exact (h1.lo key hk' l hl).1.slotOf)
 rw[List.length_map] at hlen;exact chainOk_of h.sh _ _ _ (h1.ch key hk') (fun l hl=>(h1.lo key hk' l hl).1) (by rw[h.sh.sl];omega)
end
end Go.Proofs.YtmgghljjjpcgkaaGreat.Em.Cw
