import Derived.Test.YtiimlopcifljeaaGreatDoorQk0
import Derived.RangeFuncNested
import Derived.RangeFuncBound
import Derived.RangeFuncCalls
import Derived.RangeFuncLeaves
import Init
import Derived.Laws.BitsAllLaws
import Derived.Laws.Bits64
import Derived.Laws.BitsLemmas
import Derived.Test.YtiimlopcifljeaaGreatDoorProg
import Derived.WalkKit
import Derived.ProofKit
import Derived.OpenShut
import Derived.WalkLawsBesides
import Derived.WalkSpells
import Derived.Outline
namespace Go.Proofs.YtiimlopcifljeaaGreatDoor.Rf
open Go Go.RowKit
set_option linter.unusedVariables false
set_option linter.unusedSimpArgs false
set_option maxRecDepth 100000
set_option maxHeartbeats 1600000
variable {F:Fence} {n:Nat} {P:Program}
theorem wpIn_rangeFunc_put {α β:Type} {g:Operand} {ps:Array Tmp} {assign body:Code} {Q:Exit→Act→World→Prop} {a:Act} {w:World}
 (hro:F.round=none) (h1:1≤n) {gf:Nat} {lb:Array Value} (hg:a.eval g=.func (.func gf) #[] lb) (hFg:F.fn gf) (eg:∀ args w,(callFunc gf args).run P w=.ok (.enter gf args) w)
 {encs:α→Array Value} (hps:∀ x,(encs x).size=ps.size) (xs:List α) (G:β→List α→α→Prop) (s0:β)
 (I:β→Loop→List α→World→Prop) (hI:∀ s o pre W,I s o pre W→W.heap[w.heap.size+1]? =some (.loop o)∧W.heap[w.heap.size]? =some (.deferred (some [])))
 (hput:∀ s o o' pre W,I s o pre W→I s o' pre (W.putObj (w.heap.size+1) (.loop o')))
 (h0:∀ o,I s0 o [] ((w.alloc (.deferred (some []))).alloc (.loop o)))
 (hseq : ∀ o W, I s0 o [] W → (∀ s pre x W1, I s o pre W1 → G s pre x → YieldAt F (n - 1 - 1) P (w.heap.size + 1) (encs x) W1 fun e W' => e = .returned (.bool true) ∧ I s o (pre ++ [x]) W') →
   CallsIn F (n - 1) P gf (#[.func (.yield (w.heap.size+1)) #[] #[]]++lb) W fun e W'=>(∃ v,e=.returned v)∧∃ s,I s o xs W')
 (a₁:α→Act)
 (hassign : ∀ (l : Nat) (x : α) (W : World) (K : Act → World → Prop), K (a₁ x) W →
   assign.wpIn (F.inRound l) (n - 1 - 1) P (Exit.then K (fun _ _ _=>False)) {tmps:=(ps.zip (encs x)).foldl (fun t (p,v)=>t.setIfInBounds p v) a.tmps,defers:=[]} W)
 (hbody:∀ (s:β) (o:Loop) (l:Nat) (pre:List α) (x:α) (W:World),I s o pre W→G s pre x→body.wpIn (F.inRound l) (n - 1 - 1) P (fun e _ W'=>match e with|.normal=>I s o (pre++[x]) W'|_=>False) (a₁ x) W)
 (hdone:∀ (s:β) (o:Loop) (W:World),I s o xs W→Q .normal {a with defers:={target:=.collected w.heap.size,args:=#[]}::a.defers} W):
 (Code.rangeFunc g ps assign body).wpIn F n P Q a w:=by
 refine wpIn_rangeFunc ?_;intro fn hfn;rw[hro];obtain⟨rec,hrec⟩:∃ rec:LoopState→Option Code→Loop,rec=fun st pe=>{state:=st,pending:=pe,fn,tmps:=a.tmps,params:=ps,assign,body,defers:=w.heap.size}:=⟨_,rfl⟩
 have hJ:=h0 (rec .ready none);obtain⟨W1,hW1⟩:∃ W1,(w.alloc (.deferred (some []))).alloc (.loop (rec .ready none))=W1:=⟨_,rfl⟩
 rw[hW1] at hJ
 refine ⟨w.heap.size + 1, [{ target := .collected w.heap.size, args := #[] }], W1, { target := .fn (.func gf) lb, args := #[.func (.yield (w.heap.size + 1)) #[] #[]] }, W1, gf,
   #[.func (.yield (w.heap.size+1)) #[] #[]]++lb,W1,?_,?_,?_,?_,fun _=>h1,?_⟩
 · rw[←hW1,hrec];exact run_enterLoop_outer _ _ _ _ _
 · simp only[resolve,hg]
   simp[go_sem]
 · intro f' hf'
   simp[Target.leads] at hf';subst hf';exact hFg
 · simp[invoke,go_sem,eg]
 · rw[hrec] at hJ
   refine (hseq _ _ hJ ?_).mono ?_
   · intro s pre x W hi hx
     obtain⟨hl,hk⟩:=hI _ _ _ _ hi;have hlt:w.heap.size+1<W.heap.size:=(Array.getElem?_eq_some_iff.1 hl).1;refine⟨fn,_,assign,body,run_yield (P:=P) (args:=encs x) hl (hps x),roundIn_of_wpIn hfn (hassign _ x W _ ⟨_,run_beginRound hl rfl,?_⟩)⟩;refine wpIn_mono (hbody _ _ _ pre x _ (hput _ _ _ _ _ hi) hx) ?_;rintro e a3 W3 hp
     cases e with
     |normal=>
      have hi3:I _ _ (pre++[x]) W3:=hp;have hl3:=(hI _ _ _ _ hi3).1;exact⟨_,_,run_endRound (P:=P) none hl3,rfl,hput _ _ _ _ _ hi3⟩
     |ret=>exact hp.elim
     |exit id=>exact hp.elim
     |goto t=>exact hp.elim
     |panic ch=>exact hp.elim
     |outgrown=>exact hp.elim
   · rintro e W2 ⟨⟨v,rfl⟩,s,hi⟩
     have hl:=(hI _ _ _ _ hi).1;exact⟨none,_,run_endLoop (P:=P) hl (by simp),hdone _ _ _ (hput _ _ _ _ _ hi)⟩
end Go.Proofs.YtiimlopcifljeaaGreatDoor.Rf
/- Numbers as texts:plain. -/
namespace Go.Proofs.YtiimlopcifljeaaGreatDoor.Tt
abbrev Bs:=List UInt8
def dg (n:Nat):Bs:=if n<10 then [UInt8.ofNat (48+n)] else dg (n / 10)++[UInt8.ofNat (48+n % 10)]
termination_by n
decreasing_by omega
def isD (c:UInt8):Bool:=decide (48≤c.toNat)&&decide (c.toNat≤57)
def val (s:Bs):Nat:=s.foldl (fun n c=>10*n+(c.toNat - 48)) 0
def gr:Nat:=1099511627776
theorem val_snoc (s:Bs) (c:UInt8):val (s++[c])=10*val s+(c.toNat - 48):=by unfold val;rw[List.foldl_append];rfl
theorem ofNat_toNat {n:Nat} (h:n<256):(UInt8.ofNat n).toNat=n:=by simp;omega
theorem toNat_ofNat (c:UInt8):UInt8.ofNat c.toNat=c:=by simp
theorem dg_lt {n:Nat} (h:n<10):dg n=[UInt8.ofNat (48+n)]:=by unfold dg;rw[if_pos h]
theorem dg_ge {n:Nat} (h:¬ n<10):dg n=dg (n / 10)++[UInt8.ofNat (48+n % 10)]:=by rw[dg];rw[if_neg h]
theorem dg_val:∀ n,val (dg n)=n:=by
 intro n
 induction n using Nat.strongRecOn with
 |_ n ih=>
  by_cases h:n<10
  · rw[dg_lt h]
    show 10*0+((UInt8.ofNat (48+n)).toNat - 48)=n
    rw[ofNat_toNat (by omega)];omega
  · rw[dg_ge h,val_snoc,ih (n / 10) (by omega),ofNat_toNat (by omega)];omega
theorem dg_all:∀ n,(dg n).all isD=true:=by
 intro n
 induction n using Nat.strongRecOn with
 |_ n ih=>
  have hd:∀ k,k<10→isD (UInt8.ofNat (48+k))=true:=fun k hk=>by unfold isD;rw[ofNat_toNat (by omega)];simp;omega
  by_cases h:n<10
  · rw[dg_lt h];show (isD _&&true)=true;rw[hd n h];rfl
  · rw[dg_ge h,List.all_append,ih (n / 10) (by omega)];show (true&&(isD _&&true))=true;rw[hd (n % 10) (by omega)];rfl
theorem dg_ne (n:Nat):dg n≠[]:=by
 by_cases h:n<10
 · rw[dg_lt h];simp
 · rw[dg_ge h];simp
theorem dg_head:∀ n,(dg n).head? =some 48→n=0:=by
 intro n
 induction n using Nat.strongRecOn with
 |_ n ih=>
  intro e
  by_cases h:n<10
  · rw[dg_lt h] at e
    have e:=Option.some.inj e
    have:=congrArg UInt8.toNat e
    rw[ofNat_toNat (by omega)] at this
    have h48:(48:UInt8).toNat=48:=rfl
    omega
  · rw[dg_ge h] at e
    cases e2:dg (n / 10) with
    |nil=>exact absurd e2 (dg_ne _)
    |cons c t=>
     rw[e2] at e
     have:=ih (n / 10) (by omega) (by rw[e2];exact e)
     omega
theorem dg_len:∀ k n,n<10 ^ (k+1)→(dg n).length≤k+1
 |0,n,h=>by rw[dg_lt (by simpa using h)];simp
 |k+1,n,h=>by
  by_cases h1:n<10
  · rw[dg_lt h1];simp
  · rw[dg_ge h1,List.length_append]
    have:=dg_len k (n / 10) (by rw[Nat.pow_succ] at h;omega)
    simp;omega
theorem val_pos:∀ (s:Bs) (c:UInt8),s.head? =some c→c≠48→isD c=true→1≤val s:=by
 intro s c h hc hd
 cases s with
 |nil=>cases h
 |cons x t=>
  obtain rfl:=Option.some.inj h
  have hx:1≤x.toNat - 48:=by
   unfold isD at hd
   simp at hd
   have:x.toNat≠48:=fun e=>hc (by rw[←toNat_ofNat x,e];rfl)
   omega
  have key:∀ (t:Bs) (m:Nat),1≤m→1≤t.foldl (fun n c=>10*n+(c.toNat - 48)) m:=fun t=>by
   induction t with
   |nil=>intro m h;exact h
   |cons y t ih=>intro m h;exact ih (10*m+(y.toNat - 48)) (by omega)
  show 1≤t.foldl _ (10*0+(x.toNat - 48))
  exact key t _ (by omega)
theorem dg_of:∀ (k:Nat) (s:Bs),s.length=k+1→s.all isD=true→¬ (s.head? =some 48∧1<s.length)→dg (val s)=s
 |0,s,h,ha,_=>by
  match s,h with
  |[c],_=>
   have hc:isD c=true:=by simpa using ha
   unfold isD at hc
   simp at hc
   have e:val [c]=c.toNat - 48:=by show 10*0+(c.toNat - 48)=_;omega
   rw[e,dg_lt (by omega),show 48+(c.toNat - 48)=c.toNat by omega,toNat_ofNat]
 |k+1,s,h,ha,hn=>by
  have hs:s≠[]:=by intro e;rw[e] at h;cases h
  obtain⟨t,c,rfl⟩:∃ t c,s=t++[c]:=⟨s.dropLast,s.getLast hs,(List.dropLast_concat_getLast hs).symm⟩
  rw[List.length_append] at h
  have ht:t.length=k+1:=by simp at h;omega
  rw[List.all_append] at ha
  simp only[Bool.and_eq_true] at ha
  obtain⟨ha1,ha2⟩:=ha
  have hc:isD c=true:=by simpa using ha2
  cases t with
  |nil=>cases ht
  |cons x t=>
   have hx:x≠48:=fun e=>hn ⟨by rw[e];rfl,by simp⟩
   have hxd:isD x=true:=by simp at ha1;exact ha1.1
   have hp:=val_pos (x::t) x rfl hx hxd
   have ih:=dg_of k (x::t) ht ha1 (fun e=>hx (Option.some.inj e.1))
   unfold isD at hc
   simp at hc
   rw[val_snoc,dg_ge (by omega),show (10*val (x::t)+(c.toNat - 48)) / 10=val (x::t) by omega,ih,show 48+(10*val (x::t)+(c.toNat - 48)) % 10=c.toNat by omega,toNat_ofNat]
theorem dg_no {n:Nat} {c:UInt8} (h:c∈dg n):48≤c.toNat∧c.toNat≤57:=by
 have:=List.all_eq_true.1 (dg_all n) c h
 unfold isD at this
 simpa using this
def sp (c:UInt8):Bs→List Bs
 |[]=>[[]]
 |x::t=>if x=c then []::sp c t else match sp c t with
  |[]=>[[x]]
  |y::r=>(x::y)::r
def jn (c:UInt8):List Bs→Bs
 |[]=>[]
 |[a]=>a
 |a::b::r=>a++c::jn c (b::r)
theorem sp_cons (c x:UInt8) (t:Bs):sp c (x::t)=if x=c then []::sp c t else match sp c t with
 |[]=>[[x]]
 |y::r=>(x::y)::r:=by rw[sp]
theorem sp_ne (c:UInt8):∀ s,sp c s≠[]
 |[]=>by simp[sp]
 |x::t=>by
  unfold sp
  split
  · simp
  · cases h:sp c t with
    |nil=>simp
    |cons y r=>simp
theorem sp_app {c:UInt8}:∀ {a:Bs} (t:Bs),c ∉ a→sp c (a++c::t)=a::sp c t
 |[],t,_=>by show sp c (c::t)=_;rw[sp_cons,if_pos rfl]
 |x::a,t,h=>by
  have hx:x≠c:=fun e=>h (by rw[e];exact List.mem_cons_self)
  show sp c (x::(a++c::t))=_
  rw[sp_cons,if_neg hx,sp_app t (fun hh=>h (List.mem_cons_of_mem _ hh))]
theorem sp_one {c:UInt8}:∀ {a:Bs},c ∉ a→sp c a=[a]
 |[],_=>rfl
 |x::a,h=>by
  have hx:x≠c:=fun e=>h (by rw[e];exact List.mem_cons_self)
  rw[sp_cons,if_neg hx,sp_one (fun hh=>h (List.mem_cons_of_mem _ hh))]
theorem sp_jn {c:UInt8}:∀ {l:List Bs},l≠[]→(∀ a∈l,c ∉ a)→sp c (jn c l)=l
 |[],h,_=>absurd rfl h
 |[a],_,h=>sp_one (h a List.mem_cons_self)
 |a::b::r,_,h=>by
  show sp c (a++c::jn c (b::r))=_
  rw[sp_app _ (h a List.mem_cons_self),sp_jn (by simp) (fun x hx=>h x (List.mem_cons_of_mem _ hx))]
end Go.Proofs.YtiimlopcifljeaaGreatDoor.Tt
namespace Go.Proofs.YtiimlopcifljeaaGreatDoor.Tt
end Go.Proofs.YtiimlopcifljeaaGreatDoor.Tt
/- The console's command of a text:plain. -/
namespace Go.Proofs.YtiimlopcifljeaaGreatDoor.Tt
def n9 (s:Bs):Option Nat:=if s=[]∨9<s.length∨(s.head? =some 48∧1<s.length) then none else if s.all isD=true then some (val s) else none
theorem n9_is {s:Bs} {n:Nat} (h:n9 s=some n):s=dg n∧s.length≤9:=by
 unfold n9 at h
 split at h
 · cases h
 · rename_i h1
   split at h
   · rename_i h2
     obtain rfl:=Option.some.inj h
     have hne:s≠[]:=fun e=>h1 (.inl e)
     have hl:0<s.length:=List.length_pos_iff.2 hne
     refine⟨(dg_of (s.length - 1) s (by omega) h2 (fun e=>h1 (.inr (.inr e)))).symm,?_⟩
     have:¬ 9<s.length:=fun e=>h1 (.inr (.inl e))
     omega
   · cases h
theorem n9_dg {n:Nat} (h:(dg n).length≤9):n9 (dg n)=some n:=by
 unfold n9
 rw[if_neg,if_pos (dg_all n),dg_val]
 rintro (e|e|⟨e1,e2⟩)
 · exact dg_ne n e
 · omega
 · rw[dg_head n e1,dg_lt (by omega)] at e2
   simp at e2
structure P9 (pn:Bs→Option Nat):Prop where
 ok:∀ n,(dg n).length≤9→pn (dg n)=some n
 is:∀ s n,pn s=some n→s=dg n∧s.length≤9
theorem P9.eq {pn:Bs→Option Nat} (h:P9 pn) (s:Bs):pn s=n9 s:=by
 cases e:n9 s with
 |some n=>
  obtain⟨rfl,h2⟩:=n9_is e
  exact h.ok n h2
 |none=>
  cases e2:pn s with
  |none=>rfl
  |some n=>
   obtain⟨rfl,h2⟩:=h.is s n e2
   rw[n9_dg h2] at e
   cases e
def cwL : List (Bs × Nat) := [([98, 101, 103, 105, 110], 2), ([103, 101, 116], 2), ([105, 110, 115, 101, 114, 116], 3), ([117, 112, 100, 97, 116, 101], 3), ([100, 101, 108, 101, 116, 101], 2), ([115, 99, 97, 110], 3), ([99, 111, 109, 109, 105, 116], 1), ([97, 98, 111, 114, 116], 1),
  ([99,111,108,108,101,99,116],0),([117,115,101,100],0),([110,111,119],0),([112,97,105,114,115],0),([115,116,97,116,117,115],1),([99,104,101,99,107],0),([112,114,101,112],1),([115,116,101,112],2)]
def refCmd (s:Bs):Option (Nat×List Nat):=
 let w:=sp 32 s
 match cwL.findIdx? (fun p=>p.1=w.headD []) with
 |none=>none
 |some i=>if w.tail.length≠(cwL.getD i ([],0)).2 then none else (w.tail.mapM n9).map fun l=>(i+1,l)
def progCmd (pn:Bs→Option Nat) (s:Bs):Option (Nat×List Nat):=
 let w:=sp 32 s
 if 4<w.length then none
 else match w.tail.mapM pn with
  |none=>none
  |some l=>(cwL.findIdx? (fun p=>p.1=w.headD []∧p.2=w.tail.length)).map fun i=>(i+1,l)
theorem cw_one:∀ i,i<16→∀ j,j<16→(cwL.getD i ([],0)).1=(cwL.getD j ([],0)).1→i=j:=by decide
theorem cw_le:∀ i,i<16→(cwL.getD i ([],0)).2≤3:=by decide
theorem find_both (x:Bs) (n:Nat):cwL.findIdx? (fun p=>p.1=x∧p.2=n)=(match cwL.findIdx? (fun p=>p.1=x) with|none=>none|some i=>if (cwL.getD i ([],0)).2=n then some i else none):=by
 cases h:cwL.findIdx? (fun p=>p.1=x) with
 |none=>
  rw[List.findIdx?_eq_none_iff] at h ⊢
  intro p hp
  have:=h p hp
  simp only[decide_eq_false_iff_not] at this ⊢
  exact fun e=>this e.1
 |some i=>
  simp only
  rw[List.findIdx?_eq_some_iff_getElem] at h
  obtain⟨hi,h1,h2⟩:=h
  have hd:(cwL.getD i ([],0))=cwL[i]:=by rw[List.getD_eq_getElem?_getD,List.getElem?_eq_getElem hi];rfl
  rw[hd]
  split
  · rename_i h3
    rw[List.findIdx?_eq_some_iff_getElem]
    refine⟨hi,by simp only[decide_eq_true_eq] at h1 ⊢;exact⟨h1,h3⟩,fun j hj=>?_⟩
    have:=h2 j hj
    simp only[decide_eq_true_eq] at this ⊢
    exact fun e=>this e.1
  · rename_i h3
    rw[List.findIdx?_eq_none_iff]
    intro p hp
    simp only[decide_eq_false_iff_not]
    rintro ⟨e1,e2⟩
    obtain⟨j,hj,rfl⟩:=List.mem_iff_getElem.1 hp
    simp only[decide_eq_true_eq] at h1
    have hj16:j<16:=hj
    have hi16:i<16:=hi
    have:i=j:=cw_one i hi16 j hj16 (by rw[hd,List.getD_eq_getElem?_getD,List.getElem?_eq_getElem hj];exact h1.trans e1.symm)
    subst this
    exact h3 e2
theorem cmd_same {pn:Bs→Option Nat} (hp:P9 pn) (s:Bs):progCmd pn s=refCmd s:=by
 unfold progCmd refCmd
 simp only
 have e:pn=n9:=funext hp.eq
 have hne:=sp_ne 32 s
 have hl:(sp 32 s).length=(sp 32 s).tail.length+1:=by
  cases h:sp 32 s with
  |nil=>exact absurd h hne
  |cons a t=>rfl
 rw[e,find_both]
 generalize (sp 32 s).headD []=x at*
 generalize (sp 32 s).tail=t at*
 rw[hl]
 cases h:cwL.findIdx? (fun p=>p.1=x) with
 |none=>
  simp only
  split
  · rfl
  · cases t.mapM n9<;>rfl
 |some i=>
  have hi:i<16:=by
   rw[List.findIdx?_eq_some_iff_getElem] at h
   exact h.1
  have:=cw_le i hi
  simp only
  by_cases h3:t.length=(cwL.getD i ([],0)).2
  · have h4:¬ (4<t.length+1):=by omega
    have h5:¬ (t.length≠(cwL.getD i ([],0)).2):=fun e=>e h3
    simp only[if_neg h4,if_neg h5,if_pos h3.symm]
    cases t.mapM n9<;>rfl
  · have h5:¬ (cwL.getD i ([],0)).2=t.length:=fun e=>h3 e.symm
    simp only[if_neg h5,ne_eq,h3,not_false_iff,if_true]
    split
    · rfl
    · cases t.mapM n9<;>rfl
end Go.Proofs.YtiimlopcifljeaaGreatDoor.Tt
namespace Go.Proofs.YtiimlopcifljeaaGreatDoor.Bt
open Go
set_option linter.unusedVariables false
set_option linter.unusedSimpArgs false
set_option maxRecDepth 100000
set_option maxHeartbeats 1600000
theorem emod_toNat (x:Int) (i:Nat) (hi:i≤64):(x % (2 ^ 64:Nat)).toNat % 2 ^ i=(x % (2 ^ i:Nat)).toNat:=by
 have hp:(0:Int)<((2 ^ i:Nat):Int):=by exact_mod_cast Nat.two_pow_pos i
 have hd:((2 ^ i:Nat):Int)∣((2 ^ 64:Nat):Int):=by exact_mod_cast Nat.pow_dvd_pow 2 hi
 have h1:(x % ((2 ^ 64:Nat):Int)) % ((2 ^ i:Nat):Int)=x % ((2 ^ i:Nat):Int):=Int.emod_emod_of_dvd x hd;have h0:0≤x % ((2 ^ 64:Nat):Int):=Int.emod_nonneg _ (by decide);rw[←h1];generalize x % ((2 ^ 64:Nat):Int)=y at h0 ⊢;obtain⟨n,rfl⟩:=Int.eq_ofNat_of_zero_le h0;rw[←Int.natCast_emod,Int.toNat_natCast,Int.toNat_natCast]
theorem and_mask_i64 (x:Int) (i:Nat) (hi:i≤62):bits .and .i64 x (((2 ^ i - 1:Nat)):Int)=x % ((2 ^ i:Nat):Int):=by
 have hlt:2 ^ i - 1<2 ^ 64:=Nat.lt_of_lt_of_le (Nat.sub_lt (Nat.two_pow_pos i) (by decide)) (Nat.pow_le_pow_right (by decide) (by omega));have hw:∀ n:Nat,n<2 ^ 62→IntKind.i64.wrap (n:Int)=n:=by
  intro n hn;rw[IntKind.wrap_i64];omega
 have hm:(x % ((2 ^ i:Nat):Int)).toNat<2 ^ i:=by
  have hp:(0:Int)<((2 ^ i:Nat):Int):=by exact_mod_cast Nat.two_pow_pos i
  have:=Int.emod_lt_of_pos x hp;have:=Int.emod_nonneg x (Int.ne_of_gt hp);omega
 show IntKind.i64.wrap (((BitVec.ofInt 64 x &&&BitVec.ofInt 64 ((2 ^ i - 1:Nat):Int)).toNat:Nat):Int)=_;rw[BitVec.ofInt_natCast,BitVec.toNat_and,BitVec.toNat_ofNat,BitVec.toNat_ofInt,Nat.mod_eq_of_lt hlt];rw[Nat.and_two_pow_sub_one_eq_mod,emod_toNat x i (by omega)];rw[hw _ (Nat.lt_of_lt_of_le hm (Nat.pow_le_pow_right (by decide) hi))];have hp:(0:Int)<((2 ^ i:Nat):Int):=by exact_mod_cast Nat.two_pow_pos i
 have:=Int.emod_nonneg x (Int.ne_of_gt hp);omega
theorem i64_and7 (x:Int):bits .and .i64 x 7=x % 8:=and_mask_i64 x 3 (by omega)
theorem and_mask_u64 (x:Int) (i:Nat) (hi:i≤63):bits .and .u64 x (((2 ^ i - 1:Nat)):Int)=x % ((2 ^ i:Nat):Int):=by
 have hlt:2 ^ i - 1<2 ^ 64:=Nat.lt_of_lt_of_le (Nat.sub_lt (Nat.two_pow_pos i) (by decide)) (Nat.pow_le_pow_right (by decide) (by omega));have hw:∀ n:Nat,n<2 ^ 63→IntKind.u64.wrap (n:Int)=n:=by
  intro n hn;rw[IntKind.wrap_u64];omega
 have hp:(0:Int)<((2 ^ i:Nat):Int):=by exact_mod_cast Nat.two_pow_pos i
 have h0:=Int.emod_nonneg x (Int.ne_of_gt hp);have hm:(x % ((2 ^ i:Nat):Int)).toNat<2 ^ i:=by
  have:=Int.emod_lt_of_pos x hp;omega
 show IntKind.u64.wrap (((BitVec.ofInt 64 x &&&BitVec.ofInt 64 ((2 ^ i - 1:Nat):Int)).toNat:Nat):Int)=_;rw[BitVec.ofInt_natCast,BitVec.toNat_and,BitVec.toNat_ofNat,BitVec.toNat_ofInt,Nat.mod_eq_of_lt hlt];rw[Nat.and_two_pow_sub_one_eq_mod,emod_toNat x i (by omega)];rw[hw _ (Nat.lt_of_lt_of_le hm (Nat.pow_le_pow_right (by decide) hi))];omega
theorem u64_and7 (x:Int):bits .and .u64 x 7=x % 8:=and_mask_u64 x 3 (by omega)
theorem u64_and65535 (x:Int):bits .and .u64 x 65535=x % 65536:=and_mask_u64 x 16 (by omega)
theorem u64_and131071 (x:Int):bits .and .u64 x 131071=x % 131072:=and_mask_u64 x 17 (by omega)
theorem nat_bit40 (n:Nat):n &&&1099511627776=n / 1099511627776 % 2*1099511627776:=nat_bit 40 n
theorem u64_andBit40 (x:Int) (h0:0≤x) (h1:x<18446744073709551616):bits .and .u64 x 1099511627776=x / 1099511627776 % 2*1099511627776:=by
 rw[u64_and x 1099511627776 h0 h1 (by decide) (by decide)];show ((x.toNat &&&1099511627776:Nat):Int)=_;rw[nat_bit40];omega
theorem u64_link (t s:Int) (h0:0≤t) (h1:t≤65535) (h2:0≤s) (h3:s≤65536):bits .or .u64 (t*131072) s=t*131072+s:=by
 obtain⟨a,rfl⟩:=Int.eq_ofNat_of_zero_le h0;obtain⟨b,rfl⟩:=Int.eq_ofNat_of_zero_le h2;rw[u64_or _ _ (by omega) (by omega) (by omega) (by omega)];rw[show ((a:Int)*131072).toNat=2 ^ 17*a from by omega,show ((b:Int)).toNat=b from by omega];rw[←Nat.two_pow_add_eq_or_of_lt (i:=17) (b:=b) (by omega) a];omega
theorem u64_or3 (t s:Int) (h0:0≤t) (h1:t<2305843009213693952) (h2:0≤s) (h3:s<8):bits .or .u64 (t*8) s=t*8+s:=by
 obtain⟨a,rfl⟩:=Int.eq_ofNat_of_zero_le h0;obtain⟨b,rfl⟩:=Int.eq_ofNat_of_zero_le h2;rw[u64_or _ _ (by omega) (by omega) (by omega) (by omega)];rw[show ((a:Int)*8).toNat=2 ^ 3*a from by omega,show ((b:Int)).toNat=b from by omega];rw[←Nat.two_pow_add_eq_or_of_lt (i:=3) (b:=b) (by omega) a];omega
theorem u64_or16 (t s:Int) (h0:0≤t) (h1:t<281474976710656) (h2:0≤s) (h3:s<65536):bits .or .u64 (t*65536) s=t*65536+s:=by
 obtain⟨a,rfl⟩:=Int.eq_ofNat_of_zero_le h0;obtain⟨b,rfl⟩:=Int.eq_ofNat_of_zero_le h2;rw[u64_or _ _ (by omega) (by omega) (by omega) (by omega)];rw[show ((a:Int)*65536).toNat=2 ^ 16*a from by omega,show ((b:Int)).toNat=b from by omega];rw[←Nat.two_pow_add_eq_or_of_lt (i:=16) (b:=b) (by omega) a];omega
end Go.Proofs.YtiimlopcifljeaaGreatDoor.Bt
namespace Go.Proofs.YtiimlopcifljeaaGreatDoor.Word
open Go.ChangeShapes Go.WideShapes Go.ChangeAt Go.RowKit
set_option linter.unusedVariables false
set_option linter.unusedSimpArgs false
set_option maxRecDepth 100000
set_option maxHeartbeats 1600000
theorem forever_any (w:World):Calls Tryz.prog 209 #[] w fun e w'=>e=.returned (.int .u64 2305843009213693952)∧w=w':=by
 go_enter Tryz.func209,Tryz.ntmps209;go_wp2;go_ret;exact⟨rfl,rfl⟩
theorem time_yes (t:Int) (h0:0≤t) (h1:t≤1099511627776) (w:World):Calls Tryz.prog 303 #[.int .u64 t] w fun e w'=>e=.returned (.tuple #[.int .u64 t,.bool true])∧w=w':=by
 go_enter Tryz.func303,Tryz.ntmps303;go_wp2
 go_ret2
 exact⟨rfl,rfl⟩
theorem txn_yes (t:Int) (h0:1≤t) (h1:t≤65535) (w:World):Calls Tryz.prog 246 #[.int .i64 t] w fun e w'=>e=.returned (.tuple #[.int .u64 (4611686018427387904+t),.bool true])∧w=w':=by
 go_enter Tryz.func246,Tryz.ntmps246;go_wp2
 go_ret2
 exact⟨rfl,rfl⟩
def rdK (t:Int):Int:=if t≤1099511627776 then 1 else if t=2305843009213693952 then 3 else if 4611686018427387904<t∧t≤4611686018427453439 then 2 else 0
def rdN (t:Int):Int:=if t≤1099511627776 then t else if 4611686018427387904<t∧t≤4611686018427453439 then t - 4611686018427387904 else 0
theorem read_any (t:Int) (h0:0≤t) (hu:t<18446744073709551616) (w:World):Calls Tryz.prog 118 #[.int .u64 t] w fun e w'=>e=.returned (.agg #[.int .i64 (rdK t),.int .u64 (rdN t)])∧Below w.heap.size w w':=by
 unfold rdK rdN
 by_cases h1:t≤1099511627776
 · rw[if_pos h1,if_pos h1]
   go_enter Tryz.func118,Tryz.ntmps118;go_wp2;exact bodyPost_ret (v:=.agg #[.int .i64 1,.int .u64 t]) (by simp[results,Tryz.results118,go_sem]) rfl ⟨rfl,(Below.refl _ _).alloc (Nat.le_refl _) _⟩
 · rw[if_neg h1,if_neg h1]
   by_cases h2:t=2305843009213693952
   · subst h2
     go_enter Tryz.func118,Tryz.ntmps118;go_wp2;exact bodyPost_ret (v:=.agg #[.int .i64 3,.int .u64 0]) (by simp[results,Tryz.results118,go_sem]) rfl ⟨rfl,(Below.refl _ _).alloc (Nat.le_refl _) _⟩
   · rw[if_neg h2]
     have e2:(t==2305843009213693952)=false:=beq_eq_false_iff_ne.2 h2
     by_cases h3:4611686018427387904<t∧t≤4611686018427453439
     · rw[if_pos h3,if_pos h3]
       obtain⟨h3,h4⟩:=h3;go_enter Tryz.func118,Tryz.ntmps118;go_wp2;exact bodyPost_ret (v:=.agg #[.int .i64 2,.int .u64 (t - 4611686018427387904)]) (by simp[results,Tryz.results118,go_sem]) rfl ⟨rfl,(Below.refl _ _).alloc (Nat.le_refl _) _⟩
     · rw[if_neg h3,if_neg h3]
       by_cases h4:4611686018427387904<t
       · have h5:4611686018427453439<t:=by omega
         clear h3;go_enter Tryz.func118,Tryz.ntmps118;go_wp2;exact bodyPost_ret (v:=.agg #[.int .i64 0,.int .u64 0]) (by simp[results,Tryz.results118,go_sem]) rfl ⟨rfl,(Below.refl _ _).alloc (Nat.le_refl _) _⟩
       · clear h3
         go_enter Tryz.func118,Tryz.ntmps118;go_wp2;exact bodyPost_ret (v:=.agg #[.int .i64 0,.int .u64 0]) (by simp[results,Tryz.results118,go_sem]) rfl ⟨rfl,(Below.refl _ _).alloc (Nat.le_refl _) _⟩
theorem link_yes (s t:Int) (h0:0≤s) (h1:s≤65535) (h2:0≤t) (h3:t≤65535) (w:World):Calls Tryz.prog 256 #[.int .i64 s,.int .i64 t] w fun e w'=>e=.returned (.tuple #[.int .u64 (t*131072+(s+1)),.bool true])∧w=w':=by
 have e1:=Bt.u64_link t (s+1) h2 h3 (by omega) (by omega);go_enter Tryz.func256,Tryz.ntmps256;go_wp2
 go_ret2
 exact⟨rfl,rfl⟩
theorem w64_id (x:Int) (h0:-9223372036854775808≤x) (h1:x<9223372036854775808):wrap64 x=x:=by
 unfold wrap64;omega
theorem ret_iib {a b a' b':Int} {c c':Bool} (h1:a=a') (h2:b=b') (h3:c=c'):Ending.returned (.tuple #[.int .i64 a,.int .i64 b,.bool c])=.returned (.tuple #[.int .i64 a',.int .i64 b',.bool c']):=by
 rw[h1,h2,h3]
theorem unlink_any (t:Int) (h0:0≤t) (hu:t<18446744073709551616) (w:World):Calls Tryz.prog 117 #[.int .u64 t] w fun e w'=>e=.returned (.tuple #[.int .i64 (t % 131072 - 1),.int .i64 (t / 131072 % 65536),.bool (t / 1099511627776 % 2==1)])∧w=w':=by
 go_enter Tryz.func117,Tryz.ntmps117;go_wp2
 go_ret3
 refine⟨ret_iib ?_ ?_ ?_,rfl⟩
 · rw[Bt.u64_and131071,w64_id (t % 131072) (by omega) (by omega),w64_id _ (by omega) (by omega)]
 · rw[Bt.u64_and65535,w64_id _ (by omega) (by omega)]
 · rw[Bt.u64_andBit40 t h0 hu,Bool.eq_iff_iff]
   simp only[bne_iff_ne,beq_iff_eq];omega
end Go.Proofs.YtiimlopcifljeaaGreatDoor.Word
