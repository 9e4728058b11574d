import Derived.Test.YtpkenfnmkpmapaaGreatQh22
namespace Go.Proofs.YtpkenfnmkpmapaaGreat.Em.Cw
open En
set_option linter.unusedVariables false
set_option linter.unusedSimpArgs false
set_option maxRecDepth 100000
set_option maxHeartbeats 1600000
/- What holds a key's versions together:every chain ends,no slot stands twice in it. -/
def Chain (σ:St):Nat→List Nat→Prop
 |h,[]=>h=0
 |h,l::ls=>h=l∧l≠0∧Chain σ (σ.word (wslot l 2)) ls
def Pl (N i:Nat):Prop:=(9≤i∧i<73)∨(73≤i∧i<73+N*3∧i % 3=0)
def SwC (σ:St) (L:Nat→List Nat):S→Prop
 |.visit key ahead link|.maker key ahead link _|.garbage key ahead link _|.unlink key ahead link=>link∈L key∧(ahead≠0→ahead∈L key∧σ.word (wslot ahead 2)=link)
 |.cut key ahead link next=>link∈L key∧(ahead≠0→ahead∈L key∧σ.word (wslot ahead 2)=link)∧σ.word (wslot link 2)=next
 |.on key link=>link∈L key
 |_=>True
structure CS (N:Nat) (σ:St) (L:Nat→List Nat) (O:Nat→Nat):Prop where
 ch:∀ key,key<64→Chain σ (σ.word (9+key)) (L key)
 nd:∀ key,key<64→((L key).map slotOf).Nodup
 lo:∀ key,key<64→∀ l∈L key,LK N l∧O (slotOf l)=key+1
 ct:∀ p∈σ.cut,LK N p.1∧O (slotOf p.1)=200
 cn:(σ.cut.map fun p=>slotOf p.1).Nodup
 fr:∀ i∈σ.free,O i=0
 ul:σ.listed=false→∀ i,O i=0
 sw:∀ x,σ.sw=some x→SOk N x→SwC σ L x
structure Qt (N:Nat) (σ τ:St):Prop where
 w:∀ i,Pl N i→τ.word i=σ.word i
 free:τ.free=σ.free
 listed:τ.listed=σ.listed
 cut:τ.cut=σ.cut
 sw:τ.sw=σ.sw
 slots:τ.slots=σ.slots
section
variable {N:Nat} {σ τ υ:St} {L:Nat→List Nat} {O:Nat→Nat}
theorem Pl.head {key:Nat} (h:key<64):Pl N (9+key):=.inl ⟨by omega,by omega⟩
theorem Pl.next {l:Nat} (h:LK N l):Pl N (wslot l 2):=by
 have:=h.slotOf;right;unfold wslot;omega
theorem Chain.cong {ls:List Nat} (hw:∀ l∈ls,τ.word (wslot l 2)=σ.word (wslot l 2)):∀ {h:Nat},Chain σ h ls→Chain τ h ls:=by
 induction ls with
 |nil=>intro h hc;exact hc
 |cons l ls ih=>
  intro h hc;refine⟨hc.1,hc.2.1,?_⟩;rw[hw l List.mem_cons_self];exact ih (fun l' hl'=>hw l' (List.mem_cons_of_mem _ hl')) hc.2.2
theorem Qt.refl (N:Nat) (σ:St):Qt N σ σ:=⟨fun _ _=>rfl,rfl,rfl,rfl,rfl,rfl⟩
theorem Qt.trans (a:Qt N σ τ) (b:Qt N τ υ):Qt N σ υ:=⟨fun i h=>(b.w i h).trans (a.w i h),b.free.trans a.free,b.listed.trans a.listed,b.cut.trans a.cut,b.sw.trans a.sw,b.slots.trans a.slots⟩
theorem SwC.cong (hw:∀ key,key<64→∀ l∈L key,τ.word (wslot l 2)=σ.word (wslot l 2)) {x:S} (hx:SOk N x) (h:SwC σ L x):SwC τ L x:=by
 cases x with
 |visit key ahead link=>exact⟨h.1,fun ha=>⟨(h.2 ha).1,(hw key (by have:=hx.1;omega) _ (h.2 ha).1).trans (h.2 ha).2⟩⟩
 |maker key ahead link id=>exact⟨h.1,fun ha=>⟨(h.2 ha).1,(hw key (by have:=hx.1;omega) _ (h.2 ha).1).trans (h.2 ha).2⟩⟩
 |garbage key ahead link b=>exact⟨h.1,fun ha=>⟨(h.2 ha).1,(hw key (by have:=hx.1;omega) _ (h.2 ha).1).trans (h.2 ha).2⟩⟩
 |unlink key ahead link=>exact⟨h.1,fun ha=>⟨(h.2 ha).1,(hw key (by have:=hx.1;omega) _ (h.2 ha).1).trans (h.2 ha).2⟩⟩
 |cut key ahead link next=>exact⟨h.1,fun ha=>⟨(h.2.1 ha).1,(hw key (by have:=hx.1;omega) _ (h.2.1 ha).1).trans (h.2.1 ha).2⟩,(hw key (by have:=hx.1;omega) _ h.1).trans h.2.2⟩
 |on key link=>exact h
 |live s=>trivial
 |head key=>trivial
 |now=>trivial
theorem CS.quiet (h:CS N σ L O) (q:Qt N σ τ):CS N τ L O:=by
 have hw:∀ key,key<64→∀ l∈L key,τ.word (wslot l 2)=σ.word (wslot l 2):=fun key hk l hl=>q.w _ (Pl.next (h.lo key hk l hl).1)
 refine⟨fun key hk=>?_,h.nd,h.lo,?_,?_,?_,?_,?_⟩
 · rw[q.w _ (Pl.head hk)]
   exact (h.ch key hk).cong (hw key hk)
 · rw[q.cut];exact h.ct
 · rw[q.cut];exact h.cn
 · rw[q.free];exact h.fr
 · rw[q.listed];exact h.ul
 · intro x hx ho
   rw[q.sw] at hx;exact (h.sw x hx ho).cong hw ho
theorem Qt.tick (σ:St):Qt N σ σ.tick:=⟨fun _ _=>rfl,rfl,rfl,rfl,rfl,rfl⟩
theorem Qt.put {i v:Nat} (hi:¬ Pl N i):Qt N σ (σ.put i v):=by
 refine⟨fun j hj=>?_,rfl,rfl,rfl,rfl,rfl⟩;rw[put_word];have:¬ j=i:=by rintro rfl;exact hi hj
 rw[if_neg (fun e=>this e.1)]
theorem Qt.cas {i o v:Nat} (hi:¬ Pl N i):Qt N σ (σ.cas i o v):=by
 unfold St.cas
 split
 · exact Qt.put hi
 · exact Qt.tick σ
theorem Qt.setT (σ:St) (s:Nat) (t:Txn):Qt N σ (σ.setT s t):=⟨fun _ _=>rfl,rfl,rfl,rfl,rfl,rfl⟩
theorem Qt.setC (σ:St) (s:Nat) (c:Cal):Qt N σ (σ.setC s c):=⟨fun _ _=>rfl,rfl,rfl,rfl,rfl,rfl⟩
theorem Qt.event (σ:St) (e:Ev):Qt N σ (σ.event e):=⟨fun _ _=>rfl,rfl,rfl,rfl,rfl,rfl⟩
theorem Qt.vals (σ:St) (v:List (Nat×Nat)):Qt N σ {σ with values:=v}:=⟨fun _ _=>rfl,rfl,rfl,rfl,rfl,rfl⟩
theorem Qt.bind (σ:St) (s tq:Nat):Qt N σ (σ.bind s tq):=by
 unfold St.bind
 split
 · exact Qt.refl N σ
 · exact (Qt.setT σ s _).trans (Qt.event _ _)
theorem Qt.read (σ:St) (s key link:Nat) (got:Bool):Qt N σ (σ.read s key link got):=Qt.setT σ s _
theorem Qt.tell (σ:St) (s key v:Nat):Qt N σ (σ.tell s key v):=Qt.setC σ s _
theorem Qt.tellEnd (σ:St) (s:Nat) (e:Ev):Qt N σ (σ.tellEnd s e):=by
 unfold St.tellEnd
 split
 · exact Qt.refl N σ
 · exact (Qt.setT σ s _).trans (Qt.event _ _)
theorem Qt.finish (σ:St) (s:Nat) (r:Res):Qt N σ (σ.finish s r):=Qt.setC σ s _
theorem noPl_clock:¬ Pl N 0:=by unfold Pl;omega
theorem noPl_live {s:Nat} (h:s<8):¬ Pl N (1+s):=by unfold Pl;omega
theorem noPl_place {id:Nat}:¬ Pl N (73+N*3+id):=by unfold Pl;omega
theorem noPl_slot {l w:Nat} (hw:w<2):¬ Pl N (wslot l w):=by unfold Pl wslot;omega
theorem Qt.help (hs:σ.slots=N) (w:Nat):Qt N σ (σ.help w):=by
 unfold St.help;refine Qt.cas ?_;have:σ.place (lastOf w)=73+N*3+lastOf w:=by unfold St.place;rw[hs]
 rw[this];exact noPl_place
end
def upO (O:Nat→Nat) (i v:Nat):Nat→Nat:=fun j=>if j=i then v else O j
def upL (L:Nat→List Nat) (k:Nat) (v:List Nat):Nat→List Nat:=fun j=>if j=k then v else L j
theorem upO_self (O:Nat→Nat) (i v:Nat):upO O i v i=v:=if_pos rfl
theorem upO_ne {O:Nat→Nat} {i v j:Nat} (h:¬ j=i):upO O i v j=O j:=if_neg h
theorem upL_self (L:Nat→List Nat) (k:Nat) (v:List Nat):upL L k v k=v:=if_pos rfl
theorem upL_ne {L:Nat→List Nat} {k:Nat} {v:List Nat} {j:Nat} (h:¬ j=k):upL L k v j=L j:=if_neg h
theorem nodup_lt:∀ (N:Nat) (l:List Nat),l.Nodup→(∀ x∈l,x<N)→l.length≤N:=by
 intro N
 induction N with
 |zero=>
  intro l hn h
  cases l with
  |nil=>exact Nat.le_refl _
  |cons x l=>exact absurd (h x List.mem_cons_self) (by omega)
 |succ N ih=>
  intro l hn h;have h1:(l.erase N).length≤N:=by
   refine ih _ (hn.erase N) (fun x hx=>?_);rw[hn.mem_erase_iff] at hx;have:=h x hx.2;have:=hx.1;omega
  by_cases hm:N∈l
  · rw[List.length_erase_of_mem hm] at h1;omega
  · rw[List.erase_of_not_mem hm] at h1;omega
theorem slotOf_linkOf {i tag:Nat} (h:i<131071):slotOf (linkOf i tag)=i:=by unfold slotOf linkOf;omega
section
variable {N Lm n:Nat} {σ τ υ:St} {L:Nat→List Nat} {O:Nat→Nat}
theorem CS.same (h:CS N σ L O) (ew:∀ i,τ.word i=σ.word i) (ec:τ.cut=σ.cut) (es:τ.sw=σ.sw) (fr:∀ i∈τ.free,O i=0) (ul:τ.listed=false→∀ i,O i=0):CS N τ L O:=by
 refine⟨fun key hk=>?_,h.nd,h.lo,by rw[ec];exact h.ct,by rw[ec];exact h.cn,fr,ul,fun x hx ho=>?_⟩
 · rw[ew];exact (h.ch key hk).cong (fun _ _=>ew _)
 · rw[es] at hx;exact (h.sw x hx ho).cong (fun _ _ _ _=>ew _) ho
theorem CS.list (h:CS N σ L O):CS N σ.list L O:=by
 unfold St.list
 split
 · exact h
 · rename_i hl
   have hl':σ.listed=false:=by simpa using hl
   exact h.same (fun _=>rfl) rfl rfl (fun i _=>h.ul hl' i) (fun e=>(by cases e))
theorem CS.hand (h:CS N σ L O) {i v:Nat} (h1:O i=0∨64<O i) (h2:O i≠200) (h3:i∈σ.free→v=0) (h4:σ.listed=true):CS N σ L (upO O i v):=by
 refine⟨h.ch,h.nd,fun key hk l hl=>?_,fun p hp=>?_,h.cn,fun j hj=>?_,fun e=>(by rw[h4] at e;cases e),h.sw⟩
 · obtain⟨a,b⟩:=h.lo key hk l hl
   exact⟨a,(upO_ne (by intro e;rw[e] at b;omega)).trans b⟩
 · obtain⟨a,b⟩:=h.ct p hp
   exact⟨a,(upO_ne (by intro e;rw[e] at b;exact h2 b)).trans b⟩
 · by_cases e:j=i
   · subst e;rw[upO_self];exact h3 hj
   · rw[upO_ne e];exact h.fr j hj
theorem take_words (σ:St):σ.take.1.words=σ.words:=by
 have e:σ.list.words=σ.words:=by unfold St.list;split<;>rfl
 unfold St.take;simp only
 split<;>exact e
theorem CS.take (h:CS N σ L O) (hs:Sh N Lm n σ) (v:Nat):(σ.take.2=none→CS N σ.take.1 L O)∧∀ l,σ.take.2=some l→O (slotOf l)=0∧CS N σ.take.1 L (upO O (slotOf l) v):=by
 have hl:=h.list;have hsl:=hs.list;unfold St.take;simp only
 split
 · exact⟨fun _=>hl,fun l e=>by cases e⟩
 · rename_i i hi
   have hmem:i∈σ.list.free:=List.mem_of_getLast? hi;have hfr:=hsl.pool.fr i hmem;have hsplit:σ.list.free=σ.list.free.dropLast++[i]:=by
    have hne:σ.list.free≠[]:=by intro e;rw[e] at hi;cases hi
    have h1:=List.dropLast_concat_getLast hne;have h2:σ.list.free.getLast hne=i:=by
     rw[List.getLast?_eq_some_getLast hne] at hi;exact Option.some.inj hi
    rw[h2] at h1;exact h1.symm
   have hnd:=hsl.pool.nd;rw[hsplit,List.nodup_append] at hnd;refine⟨fun e=>(by cases e),fun l e=>?_⟩;obtain rfl:=Option.some.inj e;have hsi:slotOf (σ.list.linkAt i)=i:=slotOf_linkOf (by have:=hfr.1;have:=hs.n1;omega);rw[hsi];have h0:=hl.fr i hmem;refine⟨h0,?_⟩;have hl2:CS N {σ.list with free:=σ.list.free.dropLast,tags:=σ.list.tags.set i ((σ.list.tags.getD i (0,false)).1,true)} L O:=
    hl.same (fun _=>rfl) rfl rfl (fun j hj=>hl.fr j (by rw[hsplit];exact List.mem_append_left _ hj)) hl.ul
   exact hl2.hand (.inl h0) (by omega) (fun hf=>absurd rfl (hnd.2.2 i hf i (by simp))) (list_listed σ)
theorem give_words (σ:St) (l:Nat):(σ.give l).words=σ.words:=by
 unfold St.give
 split
 · simp only;split<;>rfl
 · rfl
theorem CS.give (h:CS N σ L O) {link:Nat} (h1:64<O (slotOf link)) (h2:O (slotOf link)≠200) (hl:σ.listed=true):CS N (σ.give link) L (upO O (slotOf link) 0):=by
 have h0:=h.hand (v:=0) (.inr h1) h2 (fun _=>rfl) hl;unfold St.give
 split
 · simp only
   split
   · exact h0.same (fun _=>rfl) rfl rfl h0.fr h0.ul
   · refine h0.same (fun _=>rfl) rfl rfl (fun i hi=>?_) h0.ul
     change i∈σ.free++[slotOf link] at hi;rw[List.mem_append] at hi
     rcases hi with hi|hi
     · exact h0.fr i hi
     · simp at hi;subst hi;exact upO_self O _ 0
 · exact h0
theorem wslot_ne {l l':Nat} (h:¬ slotOf l=slotOf l'):¬ wslot l 2=wslot l' 2:=by unfold wslot;omega
theorem CS.next (h:CS N σ L O) {link v:Nat} (h1:O (slotOf link)=0∨64<O (slotOf link)):CS N (σ.put (wslot link 2) v) L O:=by
 have hw:∀ key,key<64→∀ l∈L key,(σ.put (wslot link 2) v).word (wslot l 2)=σ.word (wslot l 2):=fun key hk l hl=>by
  rw[put_word,if_neg];rintro ⟨e,-⟩;have hb:=(h.lo key hk l hl).2;refine wslot_ne (fun e2=>?_) e;rw[e2] at hb;omega
 refine⟨fun key hk=>?_,h.nd,h.lo,h.ct,h.cn,h.fr,h.ul,fun x hx ho=>(h.sw x hx ho).cong hw ho⟩;rw[put_word,if_neg (by rintro ⟨e,-⟩;unfold wslot at e;omega)];exact (h.ch key hk).cong (hw key hk)
theorem SwC.mono {L':Nat→List Nat} (hm:∀ key,key<64→∀ l∈L key,l∈L' key) {x:S} (hx:SOk N x) (h:SwC σ L x):SwC σ L' x:=by
 cases x with
 |visit key ahead link=>exact⟨hm key (by have:=hx.1;omega) _ h.1,fun ha=>⟨hm key (by have:=hx.1;omega) _ (h.2 ha).1,(h.2 ha).2⟩⟩
 |maker key ahead link id=>exact⟨hm key (by have:=hx.1;omega) _ h.1,fun ha=>⟨hm key (by have:=hx.1;omega) _ (h.2 ha).1,(h.2 ha).2⟩⟩
 |garbage key ahead link b=>exact⟨hm key (by have:=hx.1;omega) _ h.1,fun ha=>⟨hm key (by have:=hx.1;omega) _ (h.2 ha).1,(h.2 ha).2⟩⟩
 |unlink key ahead link=>exact⟨hm key (by have:=hx.1;omega) _ h.1,fun ha=>⟨hm key (by have:=hx.1;omega) _ (h.2 ha).1,(h.2 ha).2⟩⟩
 |cut key ahead link next=>exact⟨hm key (by have:=hx.1;omega) _ h.1,fun ha=>⟨hm key (by have:=hx.1;omega) _ (h.2.1 ha).1,(h.2.1 ha).2⟩,h.2.2⟩
 |on key link=>exact hm key (by have:=hx.1;omega) _ h
 |live s=>trivial
 |head key=>trivial
 |now=>trivial
theorem CS.push (h:CS N σ L O) {key head link:Nat} (hk:key<64) (hl:LK N link) (h1:64<O (slotOf link)) (h2:O (slotOf link)≠200) (hw:σ.word (wslot link 2)=head) (hh:σ.word (9+key)=head) (hlen:9+key<σ.words.length) (hls:σ.listed=true):
 CS N (σ.put (9+key) link) (upL L key (link::L key)) (upO O (slotOf link) (key+1)):=by
 have hww:∀ l,(σ.put (9+key) link).word (wslot l 2)=σ.word (wslot l 2):=fun l=>by
  rw[put_word,if_neg];rintro ⟨e,-⟩;unfold wslot at e;omega
 have hno:∀ k,k<64→∀ l∈L k,¬ slotOf l=slotOf link:=fun k hk' l hl' e=>by
  have:=(h.lo k hk' l hl').2;rw[e] at this;omega
 refine⟨fun k hk'=>?_,fun k hk'=>?_,fun k hk' l hl'=>?_,fun p hp=>?_,h.cn,fun i hi=>?_,fun e=>(by rw[show σ.listed=false from e] at hls;cases hls),fun x hx ho=>?_⟩
 · by_cases e:k=key
   · subst e
     rw[upL_self,put_word,if_pos ⟨rfl,hlen⟩];refine⟨rfl,hl.ne,?_⟩;rw[hww,hw,←hh];exact (h.ch k hk').cong (fun l _=>hww l)
   · rw[upL_ne e,put_word,if_neg (by omega)]
     exact (h.ch k hk').cong (fun l _=>hww l)
 · by_cases e:k=key
   · subst e
     rw[upL_self,List.map_cons,List.nodup_cons];refine⟨fun hm=>?_,h.nd k hk'⟩;obtain⟨l,hl',e⟩:=List.mem_map.1 hm;exact hno k hk' l hl' e
   · rw[upL_ne e];exact h.nd k hk'
 · by_cases e:k=key
   · subst e
     rw[upL_self] at hl'
     rcases List.mem_cons.1 hl' with rfl|hl'
     · exact⟨hl,upO_self _ _ _⟩
     · exact⟨(h.lo k hk' l hl').1,(upO_ne (hno k hk' l hl')).trans (h.lo k hk' l hl').2⟩
   · rw[upL_ne e] at hl'
     exact⟨(h.lo k hk' l hl').1,(upO_ne (hno k hk' l hl')).trans (h.lo k hk' l hl').2⟩
 · obtain⟨a,b⟩:=h.ct p hp
   exact⟨a,(upO_ne (by intro e;rw[e] at b;exact h2 b)).trans b⟩
 · have:=h.fr i hi
   rw[upO_ne (by rintro rfl;omega)];exact this
 · refine SwC.mono (L:=L) (fun k hk' l hl'=>?_) ho ((h.sw x hx ho).cong (fun k hk' l _=>hww l) ho)
   by_cases e:k=key
   · subst e;rw[upL_self];exact List.mem_cons_of_mem _ hl'
   · rw[upL_ne e];exact hl'
theorem Chain.split {a:Nat}:∀ {ls:List Nat} {h:Nat},Chain σ h ls→a∈ls→∃ pre post,ls=pre++a::post∧Chain σ (σ.word (wslot a 2)) post:=by
 intro ls
 induction ls with
 |nil=>intro h _ ha;cases ha
 |cons l ls ih=>
  intro h hc ha
  by_cases e:a=l
  · subst e;exact⟨[],ls,rfl,hc.2.2⟩
  · obtain⟨pre,post,h1,h2⟩:=ih hc.2.2 ((List.mem_cons.1 ha).resolve_left e)
    exact⟨l::pre,post,by rw[h1];rfl,h2⟩
theorem Chain.next {h l:Nat} {ls:List Nat} (hc:Chain σ h ls) (hl:l∈ls) (hn:σ.word (wslot l 2)≠0):σ.word (wslot l 2)∈ls:=by
 obtain⟨pre,post,rfl,h2⟩:=hc.split hl
 cases post with
 |nil=>exact absurd h2 hn
 |cons b post=>rw[h2.1];simp
theorem Chain.first {h:Nat} {ls:List Nat} (hc:Chain σ h ls) (hn:h≠0):h∈ls:=by
 cases ls with
 |nil=>exact absurd hc hn
 |cons l ls=>rw[hc.1];exact List.mem_cons_self
def Path (N:Nat) (σ:St) (O:Nat→Nat) (q l:Nat):Prop:=∃ ls,Chain σ l ls∧∀ x∈ls,LK N x∧((1≤O (slotOf x)∧O (slotOf x)≤64)∨(O (slotOf x)=200∧∀ p∈σ.cut,slotOf p.1=slotOf x→q≤p.2))
theorem Path.tail {q l:Nat} (h:Path N σ O q l) (hl:l≠0):Path N σ O q (σ.word (wslot l 2)):=by
 obtain⟨ls,h1,h2⟩:=h
 cases ls with
 |nil=>exact absurd h1 hl
 |cons a ls=>obtain⟨e1,e2,e3⟩:=h1;subst e1;exact⟨ls,e3,fun x hx=>h2 x (List.mem_cons_of_mem _ hx)⟩
theorem Path.tq {q l:Nat} {O':Nat→Nat} (h:Path N σ O q l) (ho:∀ i,(1≤O i∧O i≤64)∨O i=200→O' i=O i) (hw:∀ x,LK N x→(1≤O (slotOf x)∧O (slotOf x)≤64)∨O (slotOf x)=200→τ.word (wslot x 2)=σ.word (wslot x 2)) (hc:τ.cut=σ.cut):Path N τ O' q l:=by
 obtain⟨ls,h1,h2⟩:=h;refine⟨ls,h1.cong (fun x hx=>hw x (h2 x hx).1 ((h2 x hx).2.imp id (·.1))),fun x hx=>?_⟩;obtain⟨a,b⟩:=h2 x hx;refine⟨a,?_⟩;rw[ho _ (b.imp id (·.1)),hc];exact b
theorem Path.quiet {q l:Nat} (h:Path N σ O q l) (qt:Qt N σ τ):Path N τ O q l:=h.tq (fun _ _=>rfl) (fun x hx _=>qt.w _ (Pl.next hx)) qt.cut
theorem CS.path (h:CS N σ L O) {key:Nat} (hk:key<64) (q:Nat):Path N σ O q (σ.word (9+key)):=
 ⟨L key,h.ch key hk,fun x hx=>⟨(h.lo key hk x hx).1,.inl (by have:=(h.lo key hk x hx).2;omega)⟩⟩
end
section
variable {N Lm n:Nat} {σ τ υ:St} {L:Nat→List Nat} {O:Nat→Nat}
end
def Pv (N:Nat) (σ:St) (O:Nat→Nat) (s q:Nat):K→Prop
 |.visit _ l|.older _ l|.maker _ l _|.ended _ l _|.ender _ l _ _|.seen _ l _=>Path N σ O q l
 |.fresh l=>l≠0→O (slotOf l)=100+s
 |.next l _ a|.free l _ a|.freeTxn l _ a _=>(l≠0→O (slotOf l)=100+s)∧Path N σ O q a
 |.slotB _ l _|.slotE _ l _|.push l _|.over l|.overN l _=>O (slotOf l)=100+s
 |.pushC l head|.overC l head=>O (slotOf l)=100+s∧σ.word (wslot l 2)=head
 |.turns tl _=>∀ x∈tl,¬ Pl N x.at_
 |_=>True
def Triv (k:K):Prop:=∀ N σ O s q,Pv N σ O s q k
structure Left (N s q:Nat) (σ:St) (O:Nat→Nat) (τ:St) (ok:Option K) (C':Nat→List Nat) (O':Nat→Nat):Prop where
 cs:CS N τ C' O'
 pv:∀ k,ok=some k→Pv N τ O' s q k
 ot:∀ i,O i≠0→O i≠100+s→O' i=O i
 ow:∀ l,LK N l→O (slotOf l)≠0→O (slotOf l)≠100+s→τ.word (wslot l 2)=σ.word (wslot l 2)
 oc:τ.cut=σ.cut
def LeftE (N s q:Nat) (σ:St) (O:Nat→Nat) (r:St×Option K):Prop:=∃ C' O',Left N s q σ O r.1 r.2 C' O'
section
variable {N L n s q d:Nat} {σ τ υ:St} {t:Txn} {c:Cal} {C:Nat→List Nat} {O:Nat→Nat}
theorem CS.listed (h:CS N σ C O) {i:Nat} (hi:O i≠0):σ.listed=true:=by
 cases e:σ.listed with
 |true=>rfl
 |false=>exact absurd (h.ul e i) hi
theorem LeftE.quiet (h:CS N σ C O) (qt:Qt N σ τ) {ok:Option K} (hk:∀ k,ok=some k→Pv N τ O s q k):LeftE N s q σ O (τ,ok):=
 ⟨C,O,h.quiet qt,hk,fun _ _ _=>rfl,fun l hl _ _=>qt.w _ (Pl.next hl),qt.cut⟩
theorem LeftE.triv (h:CS N σ C O) (qt:Qt N σ τ) {k:K} (hk:Triv k):LeftE N s q σ O (τ,some k):=LeftE.quiet h qt (fun k' e=>by obtain rfl:=Option.some.inj e;exact hk _ _ _ _ _)
theorem LeftE.last (h:CS N σ C O) (qt:Qt N σ τ):LeftE N s q σ O (τ,none):=LeftE.quiet h qt (fun k' e=>by cases e)
theorem LeftE.keep (h:CS N σ C O) (qt:Qt N σ τ) {k:K} (hk:Pv N τ O s q k):LeftE N s q σ O (τ,some k):=LeftE.quiet h qt (fun k' e=>by obtain rfl:=Option.some.inj e;exact hk)
theorem LeftE.pre (qt:Qt N σ τ) {r:St×Option K} (h:LeftE N s q τ O r):LeftE N s q σ O r:=by
 obtain⟨C',O',h1,h2,h3,h4,h5⟩:=h;exact⟨C',O',h1,h2,h3,fun l hl a b=>(h4 l hl a b).trans (qt.w _ (Pl.next hl)),h5.trans qt.cut⟩
theorem triv_fin (r:Res):Triv (.fin r):=fun _ _ _ _ _=>trivial
theorem triv_start (h:Hunt):Triv (.start h):=fun _ _ _ _ _=>trivial
theorem triv_abort (e r:Nat):Triv (.abort e r):=fun _ _ _ _ _=>trivial
theorem triv_waitK (t:Txn) (i:Nat):Triv (waitK t i):=by unfold waitK;split<;>exact fun _ _ _ _ _=>trivial
theorem triv_judgeK (t:Txn) (i:Nat):Triv (judgeK t i):=by
 unfold judgeK;simp only
 split
 · exact triv_waitK t 0
 · exact fun _ _ _ _ _=>trivial
theorem scanN_ch (s:Nat):∀ (k:Nat) (τ:St) (key:Nat),Qt N τ (scanN s k τ key).1∧Triv (scanN s k τ key).2:=by
 intro k
 induction k with
 |zero=>intro τ key;exact⟨Qt.refl N τ,triv_fin _⟩
 |succ k ih=>
  intro τ key;unfold scanN
  split
  · exact⟨Qt.refl N τ,triv_fin _⟩
  · split
    · split
      · obtain⟨a,b⟩:=ih (τ.tell s key (τ.valueOf _)) (key+1)
        exact⟨(Qt.tell τ s key _).trans a,b⟩
      · exact ih τ (key+1)
    · exact⟨Qt.refl N τ,triv_start _⟩
theorem scan_ch (s:Nat) (τ:St) (key:Nat):Qt N τ (τ.scan s key).1∧Triv (τ.scan s key).2:=scanN_ch s _ τ key
theorem thn_ch (s:Nat) (τ:St) (h:Hunt) (link:Nat):Qt N τ (τ.thn s h link).1∧Triv (τ.thn s h link).2:=by
 unfold St.thn
 split
 · simp only
   split
   · exact⟨Qt.read τ s _ _ _,triv_fin _⟩
   · exact⟨Qt.read τ s _ _ _,triv_fin _⟩
 · rename_i key _
   simp only
   split
   · obtain⟨a,b⟩:=scan_ch (N:=N) s (τ.read s key link false) (key+1)
     exact⟨(Qt.read τ s _ _ _).trans a,b⟩
   · obtain⟨a,b⟩:=scan_ch (N:=N) s ((τ.read s key link false).tell s key ((τ.read s key link false).valueOf link)) (key+1)
     exact⟨((Qt.read τ s _ _ _).trans (Qt.tell _ s _ _)).trans a,b⟩
 · simp only
   split
   · exact⟨Qt.read τ s _ _ _,triv_fin _⟩
   · split
     · exact⟨Qt.read τ s _ _ _,triv_fin _⟩
     · split
       · exact⟨Qt.refl N τ,fun _ _ _ _ _=>fun e=>absurd rfl e⟩
       · exact⟨Qt.refl N τ,fun _ _ _ _ _=>trivial⟩
 · try simp only
   split
   · exact⟨Qt.refl N τ,triv_abort _ _⟩
   · exact⟨Qt.refl N τ,triv_judgeK _ _⟩
theorem visit_ch (s:Nat) (τ:St) (h:Hunt) (link:Nat) (hp:Path N τ O q link):Qt N τ (τ.visit s h link).1∧Pv N (τ.visit s h link).1 O s q (τ.visit s h link).2:=by
 unfold St.visit
 split
 · exact⟨(thn_ch s τ h 0).1,(thn_ch (N:=N) s τ h 0).2 _ _ _ _ _⟩
 · exact⟨Qt.refl N τ,hp⟩
theorem seen_ch (s:Nat) (τ:St) (h:Hunt) (link mb:Nat) (hp:Path N τ O q link):Qt N τ (τ.seen s h link mb).1∧Pv N (τ.seen s h link mb).1 O s q (τ.seen s h link mb).2:=by
 unfold St.seen
 split
 · exact⟨(thn_ch s τ h link).1,(thn_ch (N:=N) s τ h link).2 _ _ _ _ _⟩
 · exact⟨Qt.refl N τ,hp⟩
theorem beginK_ch (s:Nat) (τ:St) (h:Hunt) (link w:Nat) (hp:Path N τ O q link):Pv N τ O s q (τ.beginK s h link w):=by
 unfold St.beginK
 split
 · exact hp
 · split<;>exact hp
theorem list_cut (σ:St):σ.list.cut=σ.cut:=by unfold St.list;split<;>rfl
theorem take_cut (σ:St) {σ':St} {o:Option Nat} (e:σ.take=(σ',o)):σ'.cut=σ.cut:=by
 have:σ.take.1.cut=σ.cut:=by
  unfold St.take;simp only
  split<;>exact list_cut σ
 rw[e] at this;exact this
theorem give_cut (σ:St) (l:Nat):(σ.give l).cut=σ.cut:=(give_sw σ l).2.2.1
theorem slot_ch (h:CS N σ C O) (hs:Sh N L n σ) (x:Bool) {link head:Nat} (hl:link≠0→O (slotOf link)=100+s):LeftE N s q σ O ((σ.slot s x link head).1,some (σ.slot s x link head).2):=by
 unfold St.slot
 by_cases h0:link=0
 · rw[if_pos h0]
   obtain⟨t1,t2⟩:=h.take hs (100+s);have hw:∀ i,σ.take.1.word i=σ.word i:=fun i=>by unfold St.word;rw[take_words]
   cases e:σ.take with
   |mk σ' o=>
    rw[e] at t1 t2 hw
    cases o with
    |none=>exact⟨C,O,t1 rfl,fun k e=>by obtain rfl:=Option.some.inj e;trivial,fun _ _ _=>rfl,fun l _ _ _=>hw _,take_cut σ e⟩
    |some l=>
     obtain⟨z,c2⟩:=t2 l rfl;refine⟨C,upO O (slotOf l) (100+s),c2.quiet (Qt.vals _ _),fun k e=>?_,fun i hi _=>upO_ne (by rintro rfl;omega),fun l _ _ _=>hw _,(take_cut σ e :)⟩;obtain rfl:=Option.some.inj e;exact upO_self _ _ _
 · rw[if_neg h0]
   exact LeftE.keep h (Qt.vals _ _) (hl h0)
theorem freeK_ch (h:CS N σ C O) (hs:Sh N L n σ) {link head at_:Nat} (hl:link≠0→O (slotOf link)=100+s) (hp:Path N σ O q at_):LeftE N s q σ O ((σ.freeK s link head at_).1,some (σ.freeK s link head at_).2):=by
 unfold St.freeK
 split
 · exact slot_ch h hs false hl
 · exact LeftE.keep h (Qt.refl N σ) ⟨hl,hp⟩
theorem lost_ch (h:CS N σ C O) {link:Nat} (s8:s<8) (hl:link≠0→O (slotOf link)=100+s):LeftE N s q σ O ((σ.lost link).1,some (σ.lost link).2):=by
 unfold St.lost;simp only
 split
 · rename_i h0
   have e:=hl h0;refine⟨C,upO O (slotOf link) 0,h.give (by omega) (by omega) (h.listed (i:=slotOf link) (by omega)),fun k e=>by obtain rfl:=Option.some.inj e;trivial,fun i hi hne=>upO_ne (by rintro rfl;exact hne e),fun l _ _ _=>by unfold St.word;rw[give_words],give_cut σ link⟩
 · exact LeftE.triv h (Qt.refl N σ) (triv_abort _ _)
theorem nextPut_ch (h:CS N σ C O) (hs:Sh N L n σ) (s8:s<8) {link head:Nat} (hl:LK N link) (ho:O (slotOf link)=100+s) {k:K} (hk:∀ τ O,O (slotOf link)=100+s→τ.word (wslot link 2)=head→Pv N τ O s q k):LeftE N s q σ O (σ.put (wslot link 2) head,some k):=by
 have hlen:wslot link 2<σ.words.length:=by have:=hl.slotOf;rw[hs.nw];unfold wslot;omega
 refine⟨C,O,h.next (.inr (by omega)),fun k' e=>?_,fun _ _ _=>rfl,fun l _ _ hne=>?_,rfl⟩
 · obtain rfl:=Option.some.inj e
   exact hk _ _ ho (by show (σ.put _ _).word _=_;rw[put_word,if_pos ⟨rfl,hlen⟩])
 · show (σ.put _ _).word _=_
   rw[put_word,if_neg];rintro ⟨e,-⟩;exact wslot_ne (fun e2=>hne (by rw[e2];exact ho)) e
theorem pushCas_ch (h:CS N σ C O) (hs:Sh N L n σ) (s8:s<8) {key link head:Nat} (hkey:key<64) (hl:LK N link) (ho:O (slotOf link)=100+s) (hw:σ.word (wslot link 2)=head) (hh:σ.word (9+key)=head) {ok:Option K} (hk:∀ k,ok=some k→Triv k) (qt:Qt N (σ.put (9+key) link) τ):LeftE N s q σ O (τ,ok):=by
 have hlen:9+key<σ.words.length:=by rw[hs.nw];omega
 have h2:=h.push hkey hl (by omega) (by omega) hw hh hlen (h.listed (i:=slotOf link) (by omega));refine⟨_,_,h2.quiet qt,fun k e=>hk k e _ _ _ _ _,fun i hi hne=>upO_ne (by rintro rfl;exact hne ho),fun l hl' _ _=>?_,qt.cut⟩;refine (qt.w _ (Pl.next hl')).trans ?_;rw[put_word,if_neg];rintro ⟨e,-⟩;unfold wslot at e;omega
theorem commit_pl (σ:St) (t:Txn):∀ x∈commitTurns σ t,¬ Pl N x.at_:=by
 intro x hx;unfold commitTurns at hx;rw[List.mem_flatMap] at hx;obtain⟨key,_,hx⟩:=hx;simp only at hx;rw[List.mem_append] at hx
 rcases hx with hx|hx
 · split at hx
   · rcases List.mem_cons.1 hx with rfl|hx
     · exact noPl_slot (by omega)
     · split at hx
       · cases hx
       · simp at hx;subst hx;exact noPl_slot (by omega)
   · cases hx
 · split at hx
   · simp at hx;subst hx;exact noPl_slot (by omega)
   · cases hx
theorem abort_pl (σ:St) (t:Txn):∀ x∈abortTurns σ t,¬ Pl N x.at_:=by
 intro x hx;unfold abortTurns at hx;rw[List.mem_flatMap] at hx;obtain⟨key,_,hx⟩:=hx;simp only at hx
 split at hx
 · simp at hx;subst hx;exact noPl_slot (by omega)
 · cases hx
end
section
variable {N L n s cq d:Nat} {σ τ υ:St} {t:Txn} {c:Cal} {C:Nat→List Nat} {O:Nat→Nat}
theorem LeftE.two (h:CS N σ C O) (q:Qt N σ τ) {r:St×K} (a:Qt N τ r.1∧Pv N r.1 O s cq r.2):LeftE N s cq σ O (r.1,some r.2):=LeftE.keep h (q.trans a.1) a.2
theorem LeftE.two0 (h:CS N σ C O) (q:Qt N σ τ) {r:St×K} (a:Qt N τ r.1∧Triv r.2):LeftE N s cq σ O (r.1,some r.2):=LeftE.triv h (q.trans a.1) a.2
set_option maxHeartbeats 1600000 in
theorem run_ch (m:Mid N L n s 0 σ σ t c) {k:K} (hk:KOk N L t c k) (h:CS N σ C O) (hp:Pv N σ O s cq k):LeftE N s cq σ O (σ.run s k):=by
 have ec:=m.ec;have et:=m.et;have hs:=m.sh;have s8:=m.s8;have ht:CS N σ.tick C O:=h.quiet (Qt.tick σ);have qt:=Qt.tick (N:=N) σ;have hst:Sh N L n σ.tick:=hs.tick
 cases k with
 |fin r=>exact LeftE.last h (Qt.finish σ s r)
 |start hh=>exact LeftE.two h qt (visit_ch s σ.tick hh _ (ht.path hk.1 cq))
 |visit hh link=>exact LeftE.keep h qt (beginK_ch s _ hh link _ (Path.quiet hp qt))
 |older hh link=>exact LeftE.two h qt (visit_ch s σ.tick hh _ ((Path.tail hp hk.2.ne).quiet qt))
 |maker hh link id=>
  have hp2:=Path.quiet hp qt;simp only[St.run]
  split
  · exact LeftE.keep h qt hp2
  split<;>exact LeftE.keep h qt hp2
 |ended hh link mb=>
  have hp2:=Path.quiet hp qt;simp only[St.run]
  split
  · exact LeftE.keep h qt hp2
  split
  · exact LeftE.two h qt (seen_ch s σ.tick hh link mb hp2)
  · exact LeftE.keep h qt hp2
 |ender hh link mb id=>
  have hp2:=Path.quiet hp qt;simp only[St.run]
  split
  · exact LeftE.two h qt (seen_ch s σ.tick hh link mb hp2)
  split
  · exact LeftE.keep h (qt.trans (Qt.bind _ s id)) (hp2.quiet (Qt.bind _ s id))
  · exact LeftE.keep h qt hp2
 |seen hh link mb=>
  simp only[St.run]
  split
  · exact LeftE.triv h qt (fun _ _ _ _ _=>trivial)
  · split
    · exact LeftE.two0 h (qt.trans (Qt.bind _ s mb)) (thn_ch s _ hh link)
    · exact LeftE.two0 h qt (thn_ch s _ hh link)
 |again en=>
  simp only[St.run];have q1:∀ a b,Qt N σ ((σ.put (wslot a 1) b)):=fun a b=>Qt.put (noPl_slot (by omega))
  split
  · exact LeftE.triv h (((q1 _ _).trans (Qt.setT _ s _)).trans (Qt.vals _ _)) (triv_fin _)
  · exact LeftE.triv h ((q1 _ _).trans (Qt.setT _ s _)) (triv_fin _)
 |own link=>
  simp only[St.run]
  split
  · exact LeftE.triv h qt (fun _ _ _ _ _=>trivial)
  split<;>exact LeftE.triv h qt (fun _ _ _ _ _=>trivial)
 |ownTxn link w id=>
  simp only[St.run]
  split<;>exact LeftE.triv h qt (fun _ _ _ _ _=>trivial)
 |claim link w=>
  simp only[St.run];have q1:Qt N σ (σ.cas (wslot link 1) w (mine (σ.t s))):=Qt.cas (noPl_slot (by omega));have hs1:Sh N L n (σ.cas (wslot link 1) w (mine (σ.t s))):=by
   rw[et];exact hs.cas (slot_ok (w:=1) hk.1 (by omega) (mine_lt m.t1) (Wd_mine m.t1))
  split
  · exact LeftE.triv h q1 (fun _ _ _ _ _=>trivial)
  · split
    · exact LeftE.triv h (q1.trans (Qt.setT _ s _)) (triv_fin _)
    · have q2:=q1.trans (Qt.setT (σ.cas (wslot link 1) w (mine (σ.t s))) s {(σ.cas (wslot link 1) w (mine (σ.t s))).t s with cells:=(((σ.cas (wslot link 1) w (mine (σ.t s))).c s).op.key,(⟨0,link,false⟩:Cel))::((σ.cas (wslot link 1) w (mine (σ.t s))).t s).cells,keys:=((σ.cas (wslot link 1) w (mine (σ.t s))).t s).keys++[((σ.cas (wslot link 1) w (mine (σ.t s))).c s).op.key]})
      exact LeftE.pre q2 (slot_ch (h.quiet q2) (hs1.setT s _) true (fun e=>absurd rfl e))
 |fresh link=>
  simp only[St.run,ec];exact LeftE.pre qt (freeK_ch ht hst hp (ht.path hk.2.2 cq))
 |next link head at_=>
  simp only[St.run];exact LeftE.pre qt (freeK_ch ht hst hp.1 ((Path.tail hp.2 hk.2.2.1.ne).quiet qt))
 |free link head at_=>
  simp only[St.run]
  split
  · exact LeftE.keep h qt ⟨hp.1,hp.2.quiet qt⟩
  split
  · exact LeftE.pre qt (lost_ch ht s8 hp.1)
  · exact LeftE.keep h qt ⟨hp.1,hp.2.quiet qt⟩
 |freeTxn link head at_ id=>
  simp only[St.run]
  split
  · exact LeftE.keep h qt ⟨hp.1,hp.2.quiet qt⟩
  · exact LeftE.pre qt (lost_ch ht s8 hp.1)
 |slotB x link head=>exact LeftE.keep h (Qt.put (noPl_slot (by omega))) hp
 |slotE x link head=>
  have q1:Qt N σ (σ.put (wslot link 1) ever):=Qt.put (noPl_slot (by omega))
  cases x with
  |true=>exact LeftE.keep h q1 hp
  |false=>exact LeftE.keep h q1 hp
 |push link head=>exact nextPut_ch h hs s8 hk.1 hp (fun τ O a b=>⟨a,b⟩)
 |overN link head=>exact nextPut_ch h hs s8 hk.1 hp (fun τ O a b=>⟨a,b⟩)
 |pushC link head=>
  obtain⟨hl,_,_,hkk⟩:=hk;obtain⟨p1,p2⟩:=hp;simp only[St.run,ec]
  split
  · rename_i hne
    have e:σ.cas (9+c.op.key) head link=σ.tick:=by unfold St.cas;rw[if_neg hne]
    rw[e];exact LeftE.keep h qt (fun _=>p1)
  · rename_i hne
    have hh:σ.word (9+c.op.key)=head:=by
     by_cases e:σ.word (9+c.op.key)=head
     · exact e
     · exact absurd e hne
    have e:σ.cas (9+c.op.key) head link=σ.put (9+c.op.key) link:=by unfold St.cas;rw[if_pos hh]
    rw[e];exact pushCas_ch h hs s8 hkk hl p1 p2 hh (fun k e=>by obtain rfl:=Option.some.inj e;exact triv_fin _) (Qt.setT _ s _)
 |over link=>exact LeftE.keep h qt hp
 |overC link head=>
  obtain⟨hl,_,_,hkk⟩:=hk;obtain⟨p1,p2⟩:=hp;simp only[St.run,ec]
  split
  · rename_i hne
    have e:σ.cas (9+c.op.key) head link=σ.tick:=by unfold St.cas;rw[if_neg hne]
    rw[e];exact LeftE.keep h qt p1
  · rename_i hne
    have hh:σ.word (9+c.op.key)=head:=by
     by_cases e:σ.word (9+c.op.key)=head
     · exact e
     · exact absurd e hne
    have e:σ.cas (9+c.op.key) head link=σ.put (9+c.op.key) link:=by unfold St.cas;rw[if_pos hh]
    rw[e];exact pushCas_ch h hs s8 hkk hl p1 p2 hh (fun k e=>by obtain rfl:=Option.some.inj e;exact triv_fin _) (Qt.setT _ s _)
 |draw=>
  simp only[St.run]
  split
  · exact LeftE.triv h qt (triv_abort _ _)
  split<;>exact LeftE.triv h qt (fun _ _ _ _ _=>trivial)
 |drawH w now=>exact LeftE.triv h (Qt.help hs.sl w) (fun _ _ _ _ _=>trivial)
 |turn w now=>
  simp only[St.run];have q1:∀ a b,Qt N σ (σ.cas 0 a b):=fun a b=>Qt.cas noPl_clock
  split
  · exact LeftE.triv h (q1 _ _) (fun _ _ _ _ _=>trivial)
  · exact LeftE.triv h (((q1 _ _).trans (Qt.setT _ s _)).trans (Qt.event _ _)) (fun _ _ _ _ _=>trivial)
 |helpJ=>exact LeftE.triv h (Qt.help hs.sl _) (triv_judgeK _ _)
 |wait i=>
  simp only[St.run]
  split
  · exact LeftE.triv h qt (triv_waitK _ _)
  split
  · exact LeftE.triv h qt (triv_abort _ _)
  · exact LeftE.triv h (qt.trans (Qt.setC _ s _)) (fun _ _ _ _ _=>trivial)
 |commit=>
  have q1:Qt N σ (σ.put (σ.place (σ.t s).id) (pack 3 (σ.t s).end_)):=Qt.put (by rw[hs.place];exact noPl_place);exact LeftE.keep h (q1.trans (Qt.tellEnd _ s _)) (commit_pl _ _)
 |abort e reason=>
  have q1:Qt N σ (σ.put (σ.place (σ.t s).id) (pack 4 (σ.t s).end_)):=Qt.put (by rw[hs.place];exact noPl_place);exact LeftE.keep h (q1.trans (Qt.tellEnd _ s _)) (abort_pl _ _)
 |turns tl r=>
  cases tl with
  |nil=>exact LeftE.last h ((Qt.put (noPl_live s8)).trans (Qt.finish _ s r))
  |cons x tl=>
   have hx:=hp x List.mem_cons_self;simp only[St.run]
   split
   · exact LeftE.keep h (Qt.put hx) (fun y hy=>hp y (List.mem_cons_of_mem _ hy))
   · exact LeftE.keep h (Qt.cas hx) (fun y hy=>hp y (List.mem_cons_of_mem _ hy))
end
def WC (N:Nat) (σ:St):Prop:=∃ C O,CS N σ C O∧(∀ q c,σ.calls.getD q none=some c→c.seq≤σ.seq)∧∀ q c k,σ.calls.getD q none=some c→c.k=some k→Pv N σ O q c.seq k
section
variable {N L n s d:Nat} {σ τ υ:St} {t:Txn} {c:Cal} {C:Nat→List Nat} {O O':Nat→Nat}
theorem others_iff {σ σ2:St} {s:Nat} (h:okOthers σ σ2 s=true):∀ q,q≠s→σ2.calls.getD q none=σ.calls.getD q none:=by
 intro q hq;unfold okOthers at h;simp only[Bool.and_eq_true,decide_eq_true_eq,List.all_eq_true,List.mem_range,Bool.or_eq_true,beq_iff_eq] at h
 by_cases h8:q<8
 · exact (h.2 q h8).resolve_left hq
 · simp[List.getD_eq_getElem?_getD,List.getElem?_eq_none (show σ2.calls.length≤q by omega),List.getElem?_eq_none (show σ.calls.length≤q by omega)]
theorem Pv.other {q cq:Nat} {k:K} (hp:Pv N σ O q cq k) (hq:∀ i,O i=100+q→O' i=O i) (hw:∀ l head,(k=.pushC l head∨k=.overC l head)→O (slotOf l)=100+q→τ.word (wslot l 2)=σ.word (wslot l 2)) (hpt:∀ l,Path N σ O cq l→Path N τ O' cq l):Pv N τ O' q cq k:=by
 cases k with
 |visit _ l=>exact hpt l hp
 |older _ l=>exact hpt l hp
 |maker _ l _=>exact hpt l hp
 |ended _ l _=>exact hpt l hp
 |ender _ l _ _=>exact hpt l hp
 |seen _ l _=>exact hpt l hp
 |fresh l=>exact fun h=>(hq _ (hp h)).trans (hp h)
 |next l _ _=>exact⟨fun h=>(hq _ (hp.1 h)).trans (hp.1 h),hpt _ hp.2⟩
 |free l _ _=>exact⟨fun h=>(hq _ (hp.1 h)).trans (hp.1 h),hpt _ hp.2⟩
 |freeTxn l _ _ _=>exact⟨fun h=>(hq _ (hp.1 h)).trans (hp.1 h),hpt _ hp.2⟩
 |slotB _ l _=>exact (hq _ hp).trans hp
 |slotE _ l _=>exact (hq _ hp).trans hp
 |push l _=>exact (hq _ hp).trans hp
 |over l=>exact (hq _ hp).trans hp
 |overN l _=>exact (hq _ hp).trans hp
 |pushC l head=>exact⟨(hq _ hp.1).trans hp.1,(hw l head (.inl rfl) hp.1).trans hp.2⟩
 |overC l head=>exact⟨(hq _ hp.1).trans hp.1,(hw l head (.inr rfl) hp.1).trans hp.2⟩
 |turns tl r=>exact hp
 |_=>trivial
theorem Pv.same {q cq:Nat} {k:K} (hp:Pv N σ O q cq k) (qt:Qt N σ τ) (hk:∀ l head,(k=.pushC l head∨k=.overC l head)→LK N l):Pv N τ O q cq k:=
 hp.other (fun _ _=>rfl) (fun l head e _=>qt.w _ (Pl.next (hk l head e))) (fun l h=>h.quiet qt)
theorem KOk.lk {k:K} (h:KOk N L t c k):∀ l head,(k=.pushC l head∨k=.overC l head)→LK N l:=by
 rintro l head (rfl|rfl)
 · exact h.1
 · exact h.1
theorem WF.klk (h:WF N L n σ) {q:Nat} {c:Cal} {k:K} (hc:σ.calls.getD q none=some c) (hk:c.k=some k):∀ l head,(k=.pushC l head∨k=.overC l head)→LK N l:=by
 obtain⟨t,ht,hx⟩:=h.cx q c hc;obtain⟨k',e,hk'⟩:=hx.k;rw[hk] at e;obtain rfl:=Option.some.inj e;exact hk'.lk
theorem WC.after (h:WF N L n σ) (hw:WC N σ) (hs:s<8) {ok:Option K} {cq:Nat} (h0:∀ C O,CS N σ C O→(∀ q c k,σ.calls.getD q none=some c→c.k=some k→Pv N σ O q c.seq k)→LeftE N s cq σ O (τ,ok))
 (hq:Qt N τ υ) (ho:∀ q,q≠s→υ.calls.getD q none=σ.calls.getD q none) (hself:∀ c k,υ.calls.getD s none=some c→c.k=some k→ok=some k) (hseq:∀ c,υ.calls.getD s none=some c→c.seq=cq∧cq≤υ.seq) (hsq:σ.seq≤υ.seq) (hlk:∀ k,ok=some k→∀ l head,(k=.pushC l head∨k=.overC l head)→LK N l):WC N υ:=by
 obtain⟨C,O,hc,hcs,hp⟩:=hw;obtain⟨C',O',h1,h2,h3,h4,h5⟩:=h0 C O hc hp;refine⟨C',O',h1.quiet hq,fun q c hcq=>?_,fun q c k hcq hk=>?_⟩
 · by_cases e:q=s
   · subst e
     obtain⟨e1,e2⟩:=hseq c hcq;omega
   · rw[ho q e] at hcq
     exact Nat.le_trans (hcs q c hcq) hsq
 · by_cases e:q=s
   · subst e
     have e1:=hself c k hcq hk;rw[(hseq c hcq).1];exact (h2 k e1).same hq (hlk k e1)
   · rw[ho q e] at hcq
     have hl:=h.klk hcq hk;exact ((hp q c k hcq hk).other (fun i hi=>h3 i (by omega) (by omega)) (fun l head e1 e2=>h4 l (hl l head e1) (by omega) (by omega)) (fun l hpa=>hpa.tq (fun i hi=>h3 i (by omega) (by omega)) (fun x hx hi=>h4 x hx (by omega) (by omega)) h5)).same hq hl
theorem WC.step (h:WF N L n σ) (hw:WC N σ) (hs:s<8) {σ1:St} {kd:Nat} {r:Res} (hst:oneStep σ s=some (σ1,kd,r)):WC N σ1:=by
 unfold oneStep at hst
 split at hst
 · rename_i t0 c ht hc
   split at hst
   · rename_i k0 hk0
     obtain⟨t,k,hk,ht2,m,ho,hr,hkk⟩:=h.mid hs hc;rw[hk0] at hk;obtain rfl:=Option.some.inj hk;obtain⟨d,hd,hran⟩:=run_ran m ho hr rfl hkk
     split at hst
     rename_i σ2 ok e;rw[e] at hran
     split at hst
     · rename_i c2 hc2
       split at hst
       · rename_i hcond
         have hoth:=others_iff hcond.2.1;have hleft:∀ C O,CS N σ C O→(∀ q c k,σ.calls.getD q none=some c→c.k=some k→Pv N σ O q c.seq k)→LeftE N s c.seq σ O (σ2,ok):=by
          intro C O hcs hp;have q0:Qt N σ (σ.setC s {c with waits:=false}):=Qt.setC σ s _;have hx:=run_ch m hkk (hcs.quiet q0) ((hp s c k0 hc hk0).same q0 hkk.lk);rw[e] at hx;exact LeftE.pre q0 hx
         have hl8:s<σ2.calls.length:=by
          cases hh:decide (s<σ2.calls.length) with
          |true=>simpa using hh
          |false=>
           have hh':¬ s<σ2.calls.length:=by simpa using hh
           rw[List.getD_eq_getElem?_getD,List.getElem?_eq_none (by omega)] at hc2
           cases hc2
         have hlk:∀ k,ok=some k→∀ l head,(k=.pushC l head∨k=.overC l head)→LK N l:=by
          intro k ek;subst ek;obtain⟨t2,c2',m2,h1,h2,h3⟩:=hran;exact h3.lk
         have hsq1:c2.seq=c.seq∧σ2.seq=σ.seq:=by
          cases ok with
          |none=>
           obtain⟨t2,c2',m2,-⟩:=hran;have e1:=m2.ca;simp only at e1;rw[hc2] at e1;obtain rfl:=Option.some.inj e1;exact⟨m2.oq.2.trans (by rw[m.ec]),m2.sq⟩
          |some k'=>
           obtain⟨t2,c2',m2,-⟩:=hran;have e1:=m2.ca;simp only at e1;rw[hc2] at e1;obtain rfl:=Option.some.inj e1;exact⟨m2.oq.2.trans (by rw[m.ec]),m2.sq⟩
         obtain⟨hsq1,hsq3⟩:=hsq1;have hsq2:σ.seq≤σ2.seq:=Nat.le_of_eq hsq3.symm;have hcs2:c.seq≤σ.seq:=by obtain⟨C,O,-,h2,-⟩:=hw;exact h2 s c hc
         have hset:∀ (x:Option Cal) q,(σ2.calls.set s x).getD q none=if q=s then x else σ2.calls.getD q none:=fun x q=>getD_setO _ _ _ _ hl8
         unfold afterStep at hst
         split at hst
         · rename_i k'
           split at hst
           · obtain⟨rfl,-⟩:=Prod.mk.injEq _ _ _ _ ▸ Option.some.inj hst
             refine WC.after h hw hs hleft ⟨fun _ _=>rfl,rfl,rfl,rfl,rfl,rfl⟩ (fun q hq=>?_) (fun c k e1 e2=>?_) (fun c4 e1=>?_) hsq2 hlk
             · show (σ2.calls.set s _).getD q none=_
               rw[hset,if_neg hq];exact hoth q hq
             · change (σ2.calls.set s _).getD s none=some c at e1
               rw[hset,if_pos rfl] at e1;obtain rfl:=Option.some.inj e1;exact e2
             · change (σ2.calls.set s _).getD s none=some c4 at e1
               rw[hset,if_pos rfl] at e1;obtain rfl:=Option.some.inj e1;exact⟨hsq1,by have:=hcs2;show c.seq≤σ2.seq;omega⟩
           · cases hst
         · split at hst
           · split at hst
             · split at hst
               · split at hst
                 · obtain⟨rfl,-⟩:=Prod.mk.injEq _ _ _ _ ▸ Option.some.inj hst
                   refine WC.after h hw hs hleft ⟨fun _ _=>rfl,rfl,rfl,rfl,rfl,rfl⟩ (fun q hq=>?_) (fun c k e1 e2=>?_) (fun c4 e1=>?_) hsq2 hlk
                   · show ((σ2.calls.set s _).set s none).getD q none=_
                     rw[getD_setO _ _ _ _ (by rw[List.length_set];exact hl8),if_neg hq,hset,if_neg hq];exact hoth q hq
                   · change ((σ2.calls.set s _).set s none).getD s none=some c at e1
                     rw[getD_setO _ _ _ _ (by rw[List.length_set];exact hl8),if_pos rfl] at e1
                     cases e1
                   · change ((σ2.calls.set s _).set s none).getD s none=some c4 at e1
                     rw[getD_setO _ _ _ _ (by rw[List.length_set];exact hl8),if_pos rfl] at e1
                     cases e1
                 · cases hst
               · cases hst
             · split at hst
               · obtain⟨rfl,-⟩:=Prod.mk.injEq _ _ _ _ ▸ Option.some.inj hst
                 refine WC.after h hw hs hleft ⟨fun _ _=>rfl,rfl,rfl,rfl,rfl,rfl⟩ (fun q hq=>?_) (fun c k e1 e2=>?_) (fun c4 e1=>?_) hsq2 hlk
                 · show ((σ2.calls.set s _).set s none).getD q none=_
                   rw[getD_setO _ _ _ _ (by rw[List.length_set];exact hl8),if_neg hq,hset,if_neg hq];exact hoth q hq
                 · change ((σ2.calls.set s _).set s none).getD s none=some c at e1
                   rw[getD_setO _ _ _ _ (by rw[List.length_set];exact hl8),if_pos rfl] at e1
                   cases e1
                 · change ((σ2.calls.set s _).set s none).getD s none=some c4 at e1
                   rw[getD_setO _ _ _ _ (by rw[List.length_set];exact hl8),if_pos rfl] at e1
                   cases e1
               · cases hst
           · cases hst
       · cases hst
     · cases hst
   · cases hst
 · cases hst
end
section
variable {N L n s cq d:Nat} {σ τ υ:St} {t:Txn} {c:Cal} {C:Nat→List Nat} {O O':Nat→Nat}
theorem first_ch (h:CS N σ C O) (hs:Sh N L n σ):LeftE N s cq σ O ((σ.first s).1,some (σ.first s).2):=by
 unfold St.first;simp only
 split
 · split
   · refine LeftE.triv h (Qt.refl N σ) ?_
     split<;>exact triv_fin _
   · exact LeftE.triv h (Qt.refl N σ) (triv_start _)
 · exact LeftE.two0 h (Qt.refl N σ) (scan_ch s σ _)
 · exact LeftE.triv h (Qt.refl N σ) (fun _ _ _ _ _=>trivial)
 · exact LeftE.triv h (Qt.refl N σ) (triv_abort _ _)
 · split
   · split
     · exact LeftE.triv h (Qt.refl N σ) (triv_fin _)
     · split
       · exact LeftE.triv h (Qt.refl N σ) (triv_fin _)
       · split
         · exact slot_ch h hs true (fun e=>absurd rfl e)
         · exact LeftE.triv h (Qt.refl N σ) (fun _ _ _ _ _=>trivial)
   · exact LeftE.triv h (Qt.refl N σ) (triv_start _)
theorem issueSt_qt (σ:St) (s:Nat) (o:En.Op) (t:Txn):Qt N σ (issueSt σ s o t):=by
 unfold issueSt
 split<;>exact⟨fun _ _=>rfl,rfl,rfl,rfl,rfl,rfl⟩
theorem WC.issue (h:WF N L n σ) (hw:WC N σ) (hs:s<8) {o:En.Op} {σ1:St} (hi:issueOk σ s o=some σ1):WC N σ1:=by
 unfold issueOk at hi
 split at hi
 · rename_i t ht
   split at hi
   · rename_i hcond
     obtain⟨ho,hcn,hop,hsq,hl8,hl8',hf⟩:=hcond;have m:=h.imid hs ht o ho (hop.imp id (·.1));have hout:=first_out m rfl rfl
     split at hi
     rename_i σ4 k e
     split at hi
     · rename_i c4 hc4
       split at hi
       · rename_i hoth
         obtain rfl:=Option.some.inj hi;have hoth':=others_iff hoth;have hl4:s<σ4.calls.length:=by
          cases hh:decide (s<σ4.calls.length) with
          |true=>simpa using hh
          |false=>
           have hh':¬ s<σ4.calls.length:=by simpa using hh
           rw[List.getD_eq_getElem?_getD,List.getElem?_eq_none (by omega)] at hc4
           cases hc4
         rw[e] at hout;refine WC.after (τ:=σ4) (ok:=some k) (cq:=σ.seq+1) h hw hs (fun C O hcs hp=>?_) (Qt.setC σ4 s _) (fun q hq=>?_) (fun c k' e1 e2=>?_) (fun c e1=>?_) ?_ (fun k' ek=>?_)
         · have hx:=first_ch (s:=s) (cq:=σ.seq+1) (hcs.quiet (issueSt_qt σ s o t)) m.sh
           rw[e] at hx;exact LeftE.pre (issueSt_qt σ s o t) hx
         · show (σ4.calls.set s _).getD q none=_
           rw[getD_setO _ _ _ _ hl4,if_neg hq];exact hoth' q hq
         · change (σ4.calls.set s _).getD s none=some c at e1
           rw[getD_setO _ _ _ _ hl4,if_pos rfl] at e1;obtain rfl:=Option.some.inj e1;exact e2
         · change (σ4.calls.set s _).getD s none=some c at e1
           rw[getD_setO _ _ _ _ hl4,if_pos rfl] at e1;obtain rfl:=Option.some.inj e1;obtain⟨t2,c2,m2,-⟩:=hout;have e1:=m2.ca;simp only at e1;rw[hc4] at e1;obtain rfl:=Option.some.inj e1;have e5:=m2.sq;have e6:=m2.oq.2;rw[m.ec] at e6;refine⟨e6,?_⟩;show σ.seq+1≤σ4.seq;rw[show σ4.seq=_ from e5,(issueSt_f σ s o t).2.2.1];exact Nat.le_refl _
         · obtain⟨t2,c2,m2,-⟩:=hout
           show σ.seq≤σ4.seq;rw[show σ4.seq=_ from m2.sq,(issueSt_f σ s o t).2.2.1];omega
         · obtain rfl:=Option.some.inj ek
           obtain⟨t2,c2,m2,h1,h2,h3⟩:=hout;exact h3.lk
       · cases hi
     · cases hi
   · cases hi
 · cases hi
theorem WC.quiet (h:WF N L n σ) (hw:WC N σ) (q:Qt N σ τ) (hc:τ.calls=σ.calls) (hsq:τ.seq=σ.seq):WC N τ:=by
 obtain⟨C,O,h1,h3,h2⟩:=hw;refine⟨C,O,h1.quiet q,fun p c e1=>?_,fun p c k e1 e2=>?_⟩
 · rw[hc] at e1
   rw[hsq];exact h3 p c e1
 · rw[hc] at e1
   exact (h2 p c k e1 e2).same q (h.klk e1 e2)
theorem beginSt_qt (hs:s<8) (hsl:σ.slots=N) {σ2:St} (q:Qt N σ σ2) (level:Nat):Qt N σ (beginSt σ s level σ2):=by
 unfold beginSt;refine q.trans (Qt.trans (τ:=({σ2 with made:=σ.made+1}:St)) ⟨fun _ _=>rfl,rfl,rfl,rfl,rfl,rfl⟩ ?_);refine ((((Qt.cas noPl_clock).trans (Qt.put ?_)).trans (Qt.put (noPl_live hs))).trans (Qt.setT _ s _)).trans (Qt.event _ _);have:σ.place (σ.made+1)=73+N*3+(σ.made+1):=by unfold St.place;rw[hsl]
 rw[this];exact noPl_place
theorem cas_calls' (σ:St) (i a b:Nat):(σ.cas i a b).calls=σ.calls:=by unfold St.cas;split<;>rfl
theorem beginSt_calls (σ:St) (s level:Nat) (σ2:St):(beginSt σ s level σ2).calls=σ2.calls:=by
 unfold beginSt;show (({σ2 with made:=σ.made+1}:St).cas 0 _ _).calls=_;rw[cas_calls']
theorem WC.begin_ (h:WF N L n σ) (hw:WC N σ) (hs:s<8) {level id:Nat} {σ1:St} (hb:beginOk σ s level=some (σ1,id)):WC N σ1:=by
 unfold beginOk at hb
 split at hb
 · split at hb
   · obtain⟨rfl,-⟩:=Prod.mk.injEq _ _ _ _ ▸ Option.some.inj hb
     exact hw.quiet h (beginSt_qt hs h.sh.sl (Qt.tick σ) level) (beginSt_calls _ _ _ _) (beginSt_f _ _ _ _).2.1
   · split at hb
     · obtain⟨rfl,-⟩:=Prod.mk.injEq _ _ _ _ ▸ Option.some.inj hb
       refine hw.quiet h (beginSt_qt hs h.sh.sl ((Qt.tick σ).trans (Qt.help (σ:=σ.tick) h.sh.sl _)) level) ((beginSt_calls _ _ _ _).trans ?_) ((beginSt_f _ _ _ _).2.1.trans ?_)
       · unfold St.help
         rw[cas_calls'];rfl
       · unfold St.help St.cas
         split<;>rfl
     · cases hb
 · cases hb
theorem WC.new (N L:Nat):WC N (new N L):=by
 have hwd:∀ i,(En.new N L).word i=0:=fun i=>by
  unfold St.word;show (List.replicate _ 0).getD i 0=0;rw[List.getD_eq_getElem?_getD,List.getElem?_replicate]
  split<;>rfl
 refine⟨fun _=>[],fun _=>0,⟨fun key _=>hwd _,fun _ _=>List.nodup_nil,fun _ _ l hl=>(by cases hl),fun p hp=>(by cases hp),List.nodup_nil,fun _ _=>rfl,fun _ _=>rfl,fun x hx=>(by cases hx)⟩,fun q c hc=>?_,fun q c k hc=>?_⟩
 all_goals exfalso
 all_goals change (List.replicate 8 none).getD q none=some c at hc
 all_goals rw[List.getD_eq_getElem?_getD,List.getElem?_replicate] at hc
 all_goals split at hc<;>cases hc
end
end Go.Proofs.YtpkenfnmkpmapaaGreat.Em.Cw
