import Derived.Test.YthicolbbmjfkfaaGreatQf17
import Derived.Lib.AppendZerosOnto
import Derived.Test.YthicolbbmjfkfaaGreatQf16
set_option linter.unusedVariables false
set_option linter.unusedSimpArgs false
set_option maxRecDepth 100000
set_option maxHeartbeats 1600000
namespace Go.Proofs.YthicolbbmjfkfaaGreat.Em
open Go.ChangeShapes Go.WideShapes Go.ChangeAt Go.RowKit En
def cO (D:St) (s:Nat) (o:En.Op) (t:bL):St:=if gU o then (({D with seq:=D.seq+1}:St).aM s (gW o (D.seq+1))) else (({(D.bM s {t with ops:=t.ops+1}) with seq:=D.seq+1}:St).aM s (gW o (D.seq+1)))
def jo (D:St) (s:Nat) (o:En.Op):Option St:=
 match D.ai.getD s none with
 |some t=>
  if nX o=true∧(D.calls.getD s none).isNone=true∧(t.ops<12∨(gU o=true∧t.ops<1000000))∧D.seq<4000000000000000000∧s<D.calls.length∧s<D.ai.length∧nO (cO D s o t) s=true then
   match (cO D s o t).first s with
   |(eF,k)=>
    match eF.calls.getD s none with
    |some c4=>if jV D eF s=true then some (eF.aM s {c4 with k:=some k}) else none
    |none=>none
  else none
 |none=>none
theorem Hd {D:St} {s:Nat} (c:dY) (h:s<D.calls.length):(D.aM s c).calls.getD s none=some c:=by
 unfold St.aM;simp[mM,List.getElem?_set,h]
theorem OE {D:St} {s:Nat} (t:bL) (h:s<D.ai.length):(D.bM s t).ai.getD s none=some t:=by
 unfold St.bM;simp[mM,List.getElem?_set,h]
theorem KM {D aC:St} {s:Nat} {o:En.Op} (hs:s<8) (h:jo D s o=some aC):OA D s o aC 0:=by
 intro A w hL;unfold jo at h
 split at h
 . rename_i t ht
   split at h
   . rename_i hh
     obtain⟨ho,hn,hop,BV,hcl,htl,hof⟩:=hh;have hn':D.calls.getD s none=none:=by simpa using hn
     split at h
     rename_i eF k hf
     split at h
     . rename_i c4 hc4
       split at h
       . rename_i hoth
         obtain rfl:=zj h;have hcq:=sQ hoth;unfold cO at hof hf
         cases he:gU o with
         |true=>
          rw[he] at hof hf;simp only[if_true] at hof hf;exact E5 hL s hs t ht o ho he hn' (by omega) BV (Ha (t:=t) ht (Hd _ hcl) hof) eF k hf c4 hc4 hcq
         |false=>
          rw[he] at hof hf;simp only[Bool.false_eq_true,if_false] at hof hf;exact CU hL s hs t ht o ho he hn' (hop.resolve_right (fun h=>by rw[he] at h;cases h.1)) BV (Ha (t:={t with ops:=t.ops+1}) (OE _ htl) (Hd _ hcl) hof) eF k hf c4 hc4 hcq
       . cases h
     . cases h
   . cases h
 . cases h
def OG (D:St) (s ax:Nat) (aC:St) (id:Nat):Prop:=∀ A w,Live A D w->zk 9 #[R A.V 0,I s,I ax] w (KD A w aC id)
def bN (D:St) (s ax:Nat) (aK:St):St:=
 ((((({aK with aB:=D.aB+1}:St).cB 0 (D.word 0) (aV (aj (D.word 0)+1) 0)).put (D.place (D.aB+1)) (pack 1 0)).put (1+s) (aj (D.word 0)+1)).bM s (gB (D.aB+1) ax (aj (D.word 0)+1))).event {kind:=1,t:=D.aB+1,n:=aj (D.word 0)+1,op:=⟨0,0,0,ax⟩}
def kU (D:St) (s ax:Nat):Option (St×Nat):=
 if 1<=ax∧ax<=3∧(D.ai.getD s none).isNone=true∧(D.calls.getD s none).isNone=true∧D.aB<2000∧D.word 0<18446744073709551616∧aj (D.word 0)<281474976710000∧aj (D.word 0)<D.limit∧D.count<3000000000000000000∧D.aQ.length<1000000 then
  if aZ (D.word 0)=0 then some (bN D s ax D.tick,D.aB+1)
  else if aZ (D.word 0)<=2000 then some (bN D s ax (D.tick.dw (D.word 0)),D.aB+1)
  else none
 else none
theorem KN {D aC:St} {s ax id:Nat} (hs:s<8) (h:kU D s ax=some (aC,id)):OG D s ax aC id:=by
 intro A w hL;unfold kU at h
 split at h
 . rename_i hh
   obtain⟨h1,h2,h3,h4,h5,h6,h7,h8,h9,h10⟩:=hh
   split at h
   . rename_i hl
     simp only[Option.some.injEq,jw] at h;obtain⟨rfl,rfl⟩:=h;exact IW hL s hs ax h1 h2 (by simpa using h3) (by simpa using h4) h5 h6 h7 h8 hl h9 h10
   . rename_i hl
     split at h
     . rename_i hl2
       simp only[Option.some.injEq,jw] at h;obtain⟨rfl,rfl⟩:=h;exact Fw hL s hs ax h1 h2 (by simpa using h3) (by simpa using h4) h5 h6 h7 h8 ⟨by omega,hl2⟩ h9 h10
     . cases h
 . cases h
theorem iJ.row {L:eH} {w:World} {size:Nat} {v:Value} {xs:List Value} (h:iJ L w size v xs):Ow.Row w 0 size v xs:=by
 obtain⟨a,n,cap,h1,h2,h3,h4,h5⟩:=h;refine⟨a,n,cap,h1,h2,h3,h4,?_⟩
 rcases h5 with h5|⟨g,off,e1,e2,e3,e4⟩
 . exact .inl h5
 . exact .inr ⟨g,off,e1,zz _,e3,e4⟩
theorem Grow.toBelow {L':eH} {w E:World} (g:Grow (fun _=>none) w L' E):Below w.heap.size w E:=⟨g.os,g.tape,g.output,g.size,fun b Z=>g.block b Z rfl⟩
theorem FB {A:az} {D:St} {w:World} (hL:Live A D w) (s:Nat) (hs:s<8):
 zk 10 #[R A.V 0,I s] w fun e E=>e=.returned (.agg (dF (D.status s)))∧Below w.heap.size w E:=by
 unfold St.status
 cases ht:D.ai.getD s none with
 |none=>exact Dw hL.rep s hs ht
 |some t=>
  by_cases he:0<t.ay
  . cases hc:D.calls.getD s none with
    |none=>
     have h:=I5 hL s hs t ht he hc;simp only[aW he];exact h
    |some c=>
     have h:=I6 hL s hs t ht he c hc;simp only[aW he];exact h
  . cases hc:D.calls.getD s none with
    |none=>
     have h:=I1 hL s hs t ht (by omega) hc;simp only[bu he];exact h
    |some c=>
     have h:=I4 hL s hs t ht (by omega) c hc;simp only[bu he];exact h
variable {A:az} {D:St} {w:World}
def Dy (A:az) (w:World) (bF:St) (er:Nat):Ending->World->Prop:=fun e E=>∃ A',e=.returned (.tuple #[I 0,I er])∧Live A' bF E∧Grow A.L w A'.L E∧A'.V=A.V
theorem Live.tick {A:az} {D:St} {w E:World} (hL:Live A D w) (r:aF A D.tick E) (g:Grow A.L w A.L E):Live A D.tick E:=
 ⟨r,hL.mp,hL.mt,fun s h c hc=>let ⟨e1,k,e2,e3⟩:=hL.call s h c hc;⟨e1,k,e2,(show nY (kp A D s) A.L E (A.bE s) k from e3.grow g)⟩,hL.idle,hL.sx.keep rfl ⟨rfl,rfl⟩ g⟩
theorem FC (hL:Live A D w) (s:Nat) (hs:s<8) (ax:Nat) (hl1:1<=ax) (hl2:ax<=3) (hn:D.ai.getD s none=none) (hmd:D.aB<2000) (hx:D.word 0<18446744073709551616) (hlim:D.limit<=aj (D.word 0)) (aN:D.count<3000000000000000000):
 zk 9 #[R A.V 0,I s,I ax] w (Dy A w D.tick 16):=by
 have hR:=hL.rep;have b1:(s:Int)<8:=by omega
 have b0:(0:Int)<=(s:Int):=by omega
 have gG:=U (fQ s hs);have wN:=U (vK ax hl1 hl2);have e2:=hR.z2;have v5:=hR.bT (5+s) (dQ A D hs);rw[show A.tp D s=.pointer none by unfold az.tp;rw[hn]] at v5;have v21:w.cell? (J A.V 21)=zt (D.aB:Int):=hR.bT 21 rfl;have d1:decide ((2000:Int)<=(D.aB:Int))=false:=by simp;omega
 have d2:((2000:Int)<=(D.aB:Int))=False:=by simp;omega
 have d3:(2000<=D.aB)=False:=by simp;omega
 have l1:decide ((D.limit:Int)<=(aj (D.word 0):Int))=true:=by simp;omega
 have l2:((D.limit:Int)<=(aj (D.word 0):Int))=True:=by simp;omega
 have l3:(D.limit<=aj (D.word 0))=True:=by simp;omega
 have Tw:=U (iP hR 0 0 rfl (by rw[hR.nw];omega) (by omega));have Tx:=U (fun E=>jI (D.word 0) hx E);have H1:Hid (∀ H,aF A D.tick H->Grow A.L w A.L H->H.cell? (J A.V 1)=zv (D.limit:Int)):=fun H r g=>r.bT 1 rfl
 have tN:=U hL;clear hL hs hl1 hl2 hn hmd hx hlim aN hR;go_enter Tryz.func9,Tryz.ntmps9;go_wp2_with (first|(go_at_call 40;refine (gG.out _).mono ?_;rintro e E ⟨rfl,rfl⟩)|(go_at_call 41;refine (wN.out _).mono ?_;rintro e E ⟨rfl,rfl⟩)|(go_at_call 42;refine Tw.out.mono ?_;rintro e H ⟨rfl,q1,q2⟩;have v1:=H1.out H q1 q2;have tZ:=U (zA q1 q2);clear q1 q2)|(go_at_call 43;refine (Tx.out _).mono ?_;rintro e E ⟨rfl,rfl⟩))
 go_ret2
 exact⟨A,rfl,tN.out.tick tZ.out.1 tZ.out.2,tZ.out.2,rfl⟩
theorem Dz (hL:Live A D w) (s:Nat) (hs:s<8) (ax:Nat) (hl1:1<=ax) (hl2:ax<=3) (t:bL) (ht:D.ai.getD s none=some t):
 zk 9 #[R A.V 0,I s,I ax] w (Dy A w D 9):=by
 have hR:=hL.rep;have b1:(s:Int)<8:=by omega
 have b0:(0:Int)<=(s:Int):=by omega
 have gG:=U (fQ s hs);have wN:=U (vK ax hl1 hl2);have v5:=hR.bT (5+s) (dQ A D hs);rw[show A.tp D s=R (A.bt s) 0 by unfold az.tp;rw[ht]] at v5;have tN:=U hL;clear hL hs hl1 hl2 ht hR;go_enter Tryz.func9,Tryz.ntmps9;go_wp2_with (first|(go_at_call 40;refine (gG.out _).mono ?_;rintro e E ⟨rfl,rfl⟩)|(go_at_call 41;refine (wN.out _).mono ?_;rintro e E ⟨rfl,rfl⟩))
 go_ret2
 exact⟨A,rfl,tN.out,Grow.refl _ _,rfl⟩
theorem mJ {P:Nat->Prop} (h:∃ n,P n):∃ n,P n∧∀ m,m<n->¬ P m:=by
 obtain⟨n,hn⟩:=h
 induction n using Nat.strongRecOn with
 |_ n ih=>
  by_cases hm:∃ m,m<n∧P m
  . obtain⟨m,h1,h2⟩:=hm
    exact ih m h1 h2
  . exact⟨n,hn,fun m h1 h2=>hm ⟨m,h1,h2⟩⟩
open Classical in
noncomputable def ui (P:Nat->Prop):Nat:=if h:∃ n,P n then Classical.choose (mJ h) else 0
theorem DC {P:Nat->Prop} (h:∃ n,P n):P (ui P):=by
 unfold ui;rw[dif_pos h];exact (Classical.choose_spec (mJ h)).1
theorem zC {P:Nat->Prop} {n:Nat} (h:P n):ui P<=n:=by
 have hh:∃ n,P n:=⟨n,h⟩
 unfold ui;rw[dif_pos hh]
 rcases Nat.lt_or_ge n (Classical.choose (mJ hh)) with h1|h1
 . exact absurd h ((Classical.choose_spec (mJ hh)).2 n h1)
 . exact h1
def Bg (D:St) (x:Nat):Bool:=decide (x<18446744073709551616)&&((rd x).1 !=2||(decide ((rd x).2<=2000)&&small D (D.place (rd x).2)))
def lU (D:St):Nat->Nat->Bool
 |0,_=>false
 |n+1,G=>G==0||(vl D G&&Bg D (D.word (af G 0))&&Bg D (D.word (af G 1))&&((D.done (D.word (af G 0))&&!D.done (D.word (af G 1)))||lU D n (D.word (af G 2))))
def sS (D:St):Bool:=(List.range 64).all fun F=>lU D (D.aG+1) (D.word (9+F))
def kV (D:St) (k:Nat):List (Nat×Nat):=(List.range k).filterMap fun F=>(D.ku (D.aG+1) (D.word (9+F))).map fun v=>(F,v)
theorem Bh (D:St) (k:Nat):kV D (k+1)=kV D k++(match D.ku (D.aG+1) (D.word (9+k)) with|some v=>[(k,v)]|none=>[]):=by
 unfold kV;rw[List.range_succ,List.filterMap_append]
 congr 1
 cases h:D.ku (D.aG+1) (D.word (9+k))<;>simp[h]
theorem FD (D:St) (k:Nat):(kV D k).length<=k:=by
 unfold kV;have:=List.length_filterMap_le (fun F=>(D.ku (D.aG+1) (D.word (9+F))).map fun v=>(F,v)) (List.range k)
 simpa using this
theorem OH {ops:Array Oper} {rest:List Oper} {o:Oper} {a:Act} {Q:Exit->Act->World->Prop} (w:World) (hgd:o.guard=none) (s x:Operand)
 (ho:o.op=.call {callee:=.builtin .append,args:=#[s,x],argTypes:=#[44,44]})
 (w0:World) (Z:Below w0.heap.size w0 w) (av:Option Addr) (m cap:Nat) (xs:List Value) (hs:a.eval s=.slice av m cap) (aY:w.ownsRow w0.heap.size 152 2 (.slice av m cap) m xs) (hm:m<4000000)
 (t0 t1:Int) (hx:a.eval x=.slice (some (J w.heap.size 0)) 1 1)
 (h:∀ AR cap' E,E.ownsRow w0.heap.size 152 2 (.slice AR (m+1) cap') (m+1) (xs++[I t0,I t1])->Below w0.heap.size w0 E->wpList Tryz.prog ops Q rest (a.put o.dst (.slice AR (m+1) cap')) E):
 wpList Tryz.prog ops Q (o::rest) a (w.alloc (.cells #[I t0,I t1] 152)):=by
 obtain⟨ii,hii,hz0,hz1,hz2⟩:=info_parts PN;have hw:=Z.size;have hown':(w.alloc (.cells #[I t0,I t1] 152)).ownsRow w0.heap.size 152 2 (.slice av m cap) m xs:=lV aY fun g hg=>Below.heap_alloc _ _ _ (aY.lt g hg).2
 refine Ow.dZ _ hgd s x 44 ho w0.heap.size 152 ii _ 2 16 Tryz.underlying44 hii hz0 hz1 hz2 rfl (by decide) (.slice av m cap) m xs hs hown' (J w.heap.size 0) 1 1 (by omega) [I t0,I t1] hx rfl (fun j u hu=>Ow.iC w [I t0,I t1] _ _ rfl j u hu) (by intro u hu;simp at hu;rcases hu with rfl|rfl<;>rfl) (by unfold maxLen;omega) (by omega) (by simp;omega) ?_;intro v' E q1 q2 q3;obtain⟨AR,cap',rfl,_⟩:=Ow.bO q1;exact h AR cap' E q1 ((Z.alloc hw _).grown q2 (by simp;omega) (fun g hg=>(aY.lt g hg).1))
theorem He {A:az} {D:St} {w H:World} (hR:aF A D w) (Z:Below w.heap.size w H) {x:Nat} (h:Bg D x=true):
 zk 86 #[R A.V 0,zu x] H fun e E=>e=.returned (.bool (D.done x))∧Below w.heap.size w E:=by
 unfold Bg at h;simp only[gT,zd,pR,bne_iff_ne] at h;have hr:=hR.below Z;refine (KJ hr x h.1 fun h2=>?_).mono fun e E hh=>⟨hh.1,Z.trans (hh.2.mono Z.size)⟩
 obtain⟨h3,h4⟩:=h.2.resolve_left (fun hn=>hn h2);exact⟨by omega,kS hR h3,fe h4⟩
theorem vL {A:az} {D:St} {w H:World} (hR:aF A D w) (Z:Below w.heap.size w H) (i:Nat) (hi:i<D.words.length):
 zk 58 #[R A.ba 0,I i] H fun e E=>e=.returned (zu (D.word i:Int))∧Below w.heap.size w E:=by
 refine (vS (hR.below Z) i hi).mono fun e E hh=>?_
 obtain⟨h1,n,rfl⟩:=hh;exact⟨h1,Z.trans ⟨rfl,rfl,rfl,zr _,fun _ _=>rfl⟩⟩
theorem I7 (hR:aF A D w) (hok:sS D=true):
 zk 59 #[R A.V 0] w fun e E=>∃ av cap,e=.returned (.slice av D.aL.length cap)∧E.ownsRow w.heap.size 152 2 (.slice av D.aL.length cap) D.aL.length (bQ D.aL)∧Below w.heap.size w E:=by
 have hls:D.aL=kV D 64:=rfl;rw[hls];have HRR:=U (zA hR hok);have HE2:Hid (∀ E,Below w.heap.size w E->E.cell? (J A.V 2)=zs A.ba 0):=fun E Z=>(hR.below Z).bT 2 rfl
 clear hls hR hok;go_enter Tryz.func59,Tryz.ntmps59;go_wp2
 go_loopw [3,6] (fun l i wr=>∃ k:Nat,k<=64∧i=I k∧Below w.heap.size w wr∧∃ av cap,l=.slice av (kV D k).length cap∧wr.ownsRow w.heap.size 152 2 l (kV D k).length (bQ (kV D k))) (fun _ i _=>64 - (intOf i).toNat)
 case atStart=>exact⟨0,by omega,rfl,Below.refl _ _,none,0,rfl,rfl,.inl ⟨rfl,rfl⟩⟩
 case round=>
  obtain⟨k,Y,rfl,Z,av,cap,rfl,aY⟩:=hrel
  by_cases hlt:k<64
  . have hR:=HRR.out.1
    have hch:lU D (D.aG+1) (D.word (9+k))=true:=by
     have h:=HRR.out.2;unfold sS at h;rw[List.all_eq_true] at h;exact h k (List.mem_range.2 hlt)
    have e2:=HE2.out wr Z;have n1:IntKind.i64.wrap ((k:Int)+1)=(k:Int)+1:=by rw[je];omega
    have n9:IntKind.i64.wrap (9+(k:Int))=9+(k:Int):=by rw[je];omega
    have YD := U (show zk 58 #[R A.ba 0, I (9 + (k : Int))] wr (fun e E => e = .returned (zu (D.word (9 + k) : Int)) ∧ Below wr.heap.size wr E) from by
      have h:=vL (hR.below Z) (Below.refl _ _) (9+k) (by rw[hR.nw];omega)
      rw[show ((9+k:Nat):Int)=9+(k:Int) by omega] at h
      exact h)
    have PK:=U (zA aY (zA hch hlt));have hm0:=FD D k;clear hch;go_wp2_with (go_at_call 58;refine YD.out.mono ?_;rintro e H ⟨rfl,hb1⟩);obtain⟨aY,hch,_⟩:=PK.out;generalize VT:D.ku (D.aG+1) (D.word (9+k))=PP;have hsu:=Bh D k;rw[VT] at hsu;have RQ:=U hsu;generalize hmm:(kV D k).length=m at*;generalize hxs:bQ (kV D k)=xs at*;have RS:=U (zA hmm hxs);have Ou:m<4000000:=by omega
    clear hsu hmm hxs hm0 Y
    go_loopw [3,5] (fun l v wr2=>∃ G:Nat,v=zu G∧(∃ n,lU D n G=true∧D.ku n G=PP)∧Below w.heap.size w wr2∧l=.slice av m cap∧wr2.ownsRow w.heap.size 152 2 l m xs) (fun _ v _=>ui fun n=>lU D n (intOf v).toNat=true∧D.ku n (intOf v).toNat=PP)
    case atStart=>exact⟨_,rfl,⟨_,hch,VT⟩,Z.trans (hb1.mono Z.size),rfl,lV aY fun g hg=>hb1.block g (aY.lt g hg).2⟩
    case round=>
     clear aY hch VT Z hb1 e2;obtain⟨G,rfl,hex,hb2,rfl,hown2⟩:=hrel;have hsp:=DC (P:=fun n=>lU D n G=true∧D.ku n G=PP) hex;obtain⟨n0,hn0⟩:∃ n0,(ui fun n=>lU D n G=true∧D.ku n G=PP)=n0:=⟨_,rfl⟩
     rw[hn0] at hsp;have Xx:=U hn0;clear hex hn0;obtain⟨hc0,hp0⟩:=hsp
     cases n0 with
     |zero=>cases hc0
     |succ n0=>
     by_cases h0:G=0
     . have hP:PP=none:=by rw[<-hp0];unfold St.ku;rw[aW h0]
       have Vu:=U (zA hb2 (zA hown2 hP));have hlt':=hlt;obtain⟨Te,Tf,Tg,Ti,Tj⟩:=rT (x:=G) (c:=0) (ci:=0) (by omega);clear hc0 hp0 h0 hP hown2 hb2 hlt hlt';go_wp2
       go_roundw
       case rel=>
        obtain⟨hb2,hown2,hP⟩:=Vu.out;have hsu:=RQ.out;rw[hP] at hsu;simp only[List.append_nil] at hsu;exact⟨k+1,PK.out.2.2,rfl,hb2,av,cap,by rw[hsu,RS.out.1],by rw[hsu,RS.out.1,RS.out.2];exact hown2⟩
       case measure=>have:=PK.out.2.2;simp[intOf];omega
     . unfold lU at hc0
       unfold St.ku at hp0;rw[bu h0] at hp0;rw[show (G==0)=false by simpa using h0,Bool.false_or] at hc0;simp only[gT] at hc0;obtain⟨⟨⟨hv,hw0⟩,hw1⟩,hc1⟩:=hc0;have hvl:=fT hv;have hr2:=HRR.out.1.below hb2;have hsl2:=hr2.sl;have e2:=HE2.out wr hb2;have OI:Hid (∀ E,Below wr.heap.size wr E->E.cell? (J A.V 2)=zs A.ba 0):=fun E Z=>(hr2.below Z).bT 2 rfl
       obtain⟨ws,hws⟩:∃ ws:Int->Int,∀ k:Nat,ws (k:Int)=((af G k:Nat):Int):=⟨fun z=>((af G z.toNat:Nat):Int),fun k=>rfl⟩
       obtain⟨pw,hpw⟩:∃ pw:Int->Int,∀ i:Nat,pw (i:Int)=((D.word i:Nat):Int):=⟨fun z=>((D.word z.toNat:Nat):Int),fun k=>rfl⟩
       obtain⟨dn,hdn⟩:∃ dn:Int->Bool,∀ x:Nat,dn (x:Int)=D.done x:=⟨fun z=>D.done z.toNat,fun k=>rfl⟩
       have e0:ws 0=((af G 0:Nat):Int):=hws 0;have e1:ws 1=((af G 1:Nat):Int):=hws 1;have UL:ws 2=((af G 2:Nat):Int):=hws 2;have p0:pw (ws 0)=((D.word (af G 0):Nat):Int):=by rw[e0];exact hpw _
       have p1:pw (ws 1)=((D.word (af G 1):Nat):Int):=by rw[e1];exact hpw _
       have p2:pw (ws 2)=((D.word (af G 2):Nat):Int):=by rw[UL];exact hpw _
       have x0:dn (pw (ws 0))=D.done (D.word (af G 0)):=by rw[p0];exact hdn _
       have x1:dn (pw (ws 1))=D.done (D.word (af G 1)):=by rw[p1];exact hdn _
       have MQ:Hid (∀ z:Int,(z=0∨z=1∨z=2)->∀ w0,zk 85 #[zu G,I z] w0 fun e E=>e=.returned (I (ws z))∧w0=E):=by
        rintro z (rfl|rfl|rfl) w0
        . rw[e0];exact eD G 0 0 rfl hvl.lo (by have:=hvl.hi;omega) hvl.u (by omega) w0
        . rw[e1];exact eD G 1 1 rfl hvl.lo (by have:=hvl.hi;omega) hvl.u (by omega) w0
        . rw[UL];exact eD G 2 2 rfl hvl.lo (by have:=hvl.hi;omega) hvl.u (by omega) w0
       have KH:Hid (∀ z:Int,(z=ws 0∨z=ws 1∨z=ws 2)->∀ w0,Below wr.heap.size wr w0->zk 58 #[R A.ba 0,I z] w0 fun e E=>e=.returned (zu (pw z))∧Below wr.heap.size wr E):=by
        rintro z (rfl|rfl|rfl) w0 Z
        . rw[p0,e0];exact vL hr2 Z _ (dD hr2 hvl.lo hvl.hi (by omega))
        . rw[p1,e1];exact vL hr2 Z _ (dD hr2 hvl.lo hvl.hi (by omega))
        . rw[p2,UL];exact vL hr2 Z _ (dD hr2 hvl.lo hvl.hi (by omega))
       have TB:Hid (∀ z:Int,(z=pw (ws 0)∨z=pw (ws 1))->∀ w0,Below wr.heap.size wr w0->zk 86 #[R A.V 0,zu z] w0 fun e E=>e=.returned (.bool (dn z))∧Below wr.heap.size wr E):=by
        rintro z (rfl|rfl) w0 Z
        . rw[x0,p0];exact He hr2 Z hw0
        . rw[x1,p1];exact He hr2 Z hw1
       have TC:Hid (∀ w0,Below wr.heap.size wr w0->(∀ H,H=w0->zk 87 #[R A.V 0,zu G] H fun e E=>e=.returned (.pointer (some ⟨A.bv,2*ag G,none⟩))∧H=E)∧w0.cell? ⟨A.bv,2*ag G+1,none⟩=zt (D.valueOf G:Int)∧Below w.heap.size w w0∧w0.ownsRow w.heap.size 152 2 (.slice av m cap) m xs):=fun w0 Z=>⟨fun H e=>by subst e;exact l9 (hr2.below Z) G hvl.lo hvl.hi hvl.u,((hr2.below Z).val (iO hvl)).2,hb2.trans (Z.mono hb2.size),lV hown2 fun g hg=>Z.block g (hown2.lt g hg).2⟩
       have HB0:Below wr.heap.size wr wr.drew:=(Below.refl _ _).drew;have YE:=U Ou;rw[<-x0,<-x1] at hc1 hp0;have OJ:=U (zA hc1 hp0);obtain⟨Te,Tf,Tg,Ti,Tj⟩:=qE (x:=G) (c:=0) (ci:=0) (by omega);clear hv hw0 hw1 hc1 hp0 hvl hr2 hsl2 hb2 hown2 h0 hlt Ou;clear hws hpw hdn e0 e1 UL p0 p1 x0 x1;generalize D.word (af G 2)=xn at*;have UM:=U p2;clear p2;go_wp2_with fail
       cases Xy:dn (pw (ws 0)) with
       |true=>
        rw[Xy] at OJ
        cases hde:dn (pw (ws 1)) with
        |true=>
         rw[hde] at OJ
         go_region_held3 (fun E=>E.cell? (J A.V 2)=zs A.ba 0)
          (first|exact e2|assumption|exact OI.out _ (by assumption))
          (first|(go_at_call 85;refine (MQ.out _ (by first|exact Or.inl rfl|exact Or.inr (Or.inl rfl)|exact Or.inr (Or.inr rfl)) _).mono ?_;rintro e E ⟨rfl,rfl⟩)|(go_at_call 58;refine (KH.out _ (by first|exact Or.inl rfl|exact Or.inr (Or.inl rfl)|exact Or.inr (Or.inr rfl)) _ (by assumption)).mono ?_;rintro e w3 ⟨rfl,hb3⟩)|(go_at_call 86;refine (TB.out _ (by first|exact Or.inl rfl|exact Or.inr rfl) _ (by assumption)).mono ?_;rintro e w4 ⟨rfl,hb4⟩))
         clear HB0;go_wp2_with fail;have e2':=OI.out _ hb4;obtain⟨_,_,hbw,how⟩:=TC.out _ hb4;have VU:=(hb4).drew
         go_region_held3 (fun E=>E.cell? (J A.V 2)=zs A.ba 0)
          (first|exact e2'|assumption|exact OI.out _ (by assumption))
          (first|(go_at_call 85;refine (MQ.out _ (by first|exact Or.inl rfl|exact Or.inr (Or.inl rfl)|exact Or.inr (Or.inr rfl)) _).mono ?_;rintro e E ⟨rfl,rfl⟩)|(go_at_call 58;refine (KH.out _ (by first|exact Or.inl rfl|exact Or.inr (Or.inl rfl)|exact Or.inr (Or.inr rfl)) _ (by assumption)).mono ?_;rintro e w7 ⟨rfl,Dx⟩))
         obtain⟨_,_,KO,KQ⟩:=TC.out _ Dx;have TD:=U (zA KO KQ);clear hbw how KO KQ;go_wp2_with fail
         go_roundw
         case rel=>
          obtain⟨hc1,hp0⟩:=OJ.out;exact⟨xn,by rw[UM.out],⟨n0,by simpa using hc1,by simpa using hp0⟩,TD.out.1,rfl,TD.out.2⟩
         case measure=>
          obtain⟨hc1,hp0⟩:=OJ.out;rw[UM.out];exact Nat.lt_of_le_of_lt (zC (P:=fun n=>lU D n xn=true∧D.ku n xn=PP) ⟨by simpa using hc1,by simpa using hp0⟩) (Nat.lt_of_lt_of_eq (Nat.lt_succ_self n0) Xx.out.symm)
        |false=>
         rw[hde] at OJ
         go_region_held3 (fun E=>E.cell? (J A.V 2)=zs A.ba 0)
          (first|exact e2|assumption|exact OI.out _ (by assumption))
          (first|(go_at_call 85;refine (MQ.out _ (by first|exact Or.inl rfl|exact Or.inr (Or.inl rfl)|exact Or.inr (Or.inr rfl)) _).mono ?_;rintro e E ⟨rfl,rfl⟩)|(go_at_call 58;refine (KH.out _ (by first|exact Or.inl rfl|exact Or.inr (Or.inl rfl)|exact Or.inr (Or.inr rfl)) _ (by assumption)).mono ?_;rintro e w3 ⟨rfl,hb3⟩)|(go_at_call 86;refine (TB.out _ (by first|exact Or.inl rfl|exact Or.inr rfl) _ (by assumption)).mono ?_;rintro e w4 ⟨rfl,hb4⟩))
         clear HB0;obtain⟨hdt,hval,hbw,how⟩:=TC.out _ hb4;have YF:=U (hdt _ rfl);have Ou:=YE.out;have Xz:PP=some (D.valueOf G):=by have h:=OJ.out.2;simpa using h.symm
         have YG:=U Xz;clear hdt Xz;generalize 2*ag G=iv at*;generalize D.valueOf G=va at*;go_wp2_with (first|(go_at_call 87;refine YF.out.mono ?_;rintro e E ⟨rfl,rfl⟩)|(refine OH _ rfl _ _ rfl w (by assumption) _ _ _ _ rfl (by assumption) (by omega) _ _ rfl ?_;intro mI gK wl ql pl))
         go_roundw
         case rel=>
          have hsu:=RQ.out;rw[YG.out] at hsu;simp only at hsu;refine⟨k+1,PK.out.2.2,rfl,pl,mI,gK,by rw[hsu,jb,RS.out.1];rfl,?_⟩;rw[hsu,uV,jb,RS.out.1,RS.out.2];exact ql
         case measure=>have:=PK.out.2.2;simp[intOf];omega
       |false=>
        rw[Xy] at OJ;refine wp_region_held_drew (S:=fun E=>E.cell? (J A.V 2)=zs A.ba 0) (by kernel_rfl) ?_ (fun aD=>?_)
        . (try dsimp only);exact e2
        refine gp (i:=0) rfl aD ?_
        (try simp only[dK,dL,dM,Act.put,dN,dO,dP])
        refine gp (i:=1) rfl aD ?_
        (try simp only[dK,dL,dM,Act.put,dN,dO,dP])
        refine gp (i:=2) rfl aD ?_
        (try simp only[dK,dL,dM,Act.put,dN,dO,dP])
        refine gp (i:=3) rfl aD ?_
        (try simp only[dK,dL,dM,Act.put,dN,dO,dP])
        refine gp (i:=4) rfl aD ?_
        (try simp only[dK,dL,dM,Act.put,dN,dO,dP])
        refine gp (i:=5) rfl aD ?_
        (try simp only[dK,dL,dM,Act.put,dN,dO,dP])
        refine wpAnyH_ready (rs:=[6]) (by kernel_rfl) (by simp) ?_;refine AllReadyH.cons (o:=_) rfl (fun K hK=>?_) ?_;rotate_left
        . exact AllReadyH.nil
        go_simp
        (first|(go_at_call 85;refine (MQ.out _ (by first|exact Or.inl rfl|exact Or.inr (Or.inl rfl)|exact Or.inr (Or.inr rfl)) _).mono ?_;rintro e E ⟨rfl,rfl⟩)|(go_at_call 58;refine (KH.out _ (by first|exact Or.inl rfl|exact Or.inr (Or.inl rfl)|exact Or.inr (Or.inr rfl)) _ (by assumption)).mono ?_;rintro e w3 ⟨rfl,hb3⟩)|(go_at_call 86;refine (TB.out _ (by first|exact Or.inl rfl|exact Or.inr rfl) _ (by assumption)).mono ?_;rintro e w4 ⟨rfl,hb4⟩))
        refine hK.out _ _ ?_ (fun aD=>?_)
        . (try dsimp only);exact OI.out _ (by assumption)
        clear hK K
        (try simp only[dK,dL,dM,Act.put,dN,dO,dP])
        refine wpAnyH_ready (rs:=[7]) (by kernel_rfl) (by simp) ?_;refine AllReadyH.cons (o:=_) rfl (fun K hK=>?_) ?_;rotate_left
        . exact AllReadyH.nil
        go_simp
        (first|(go_at_call 85;refine (MQ.out _ (by first|exact Or.inl rfl|exact Or.inr (Or.inl rfl)|exact Or.inr (Or.inr rfl)) _).mono ?_;rintro e E ⟨rfl,rfl⟩)|(go_at_call 58;refine (KH.out _ (by first|exact Or.inl rfl|exact Or.inr (Or.inl rfl)|exact Or.inr (Or.inr rfl)) _ (by assumption)).mono ?_;rintro e w3 ⟨rfl,hb3⟩)|(go_at_call 86;refine (TB.out _ (by first|exact Or.inl rfl|exact Or.inr rfl) _ (by assumption)).mono ?_;rintro e w4 ⟨rfl,hb4⟩))
        refine hK.out _ _ ?_ (fun aD=>?_)
        . (try dsimp only);exact OI.out _ (by assumption)
        clear hK K
        (try simp only[dK,dL,dM,Act.put,dN,dO,dP])
        refine wpAnyH_ready (rs:=[8]) (by kernel_rfl) (by simp) ?_;refine AllReadyH.cons (o:=_) rfl (fun K hK=>?_) ?_;rotate_left
        . exact AllReadyH.nil
        go_simp
        (first|(go_at_call 85;refine (MQ.out _ (by first|exact Or.inl rfl|exact Or.inr (Or.inl rfl)|exact Or.inr (Or.inr rfl)) _).mono ?_;rintro e E ⟨rfl,rfl⟩)|(go_at_call 58;refine (KH.out _ (by first|exact Or.inl rfl|exact Or.inr (Or.inl rfl)|exact Or.inr (Or.inr rfl)) _ (by assumption)).mono ?_;rintro e w3 ⟨rfl,hb3⟩)|(go_at_call 86;refine (TB.out _ (by first|exact Or.inl rfl|exact Or.inr rfl) _ (by assumption)).mono ?_;rintro e w4 ⟨rfl,hb4⟩))
        refine hK.out _ _ ?_ (fun aD=>?_)
        . (try dsimp only);exact OI.out _ (by assumption)
        clear hK K
        (try simp only[dK,dL,dM,Act.put,dN,dO,dP])
        refine gp (i:=9) rfl aD ?_
        (try simp only[dK,dL,dM,Act.put,dN,dO,dP])
        refine wpAnyH_take (i:=10) (v:=undef) rfl (by kernel_rfl) (by kernel_rfl) (by kernel_rfl) (fun _ _ _ h=>h) (Or.inr ⟨by rfl,rfl⟩) aD ?_
        (try simp only[dK,dL,dM,Act.put,dN,dO,dP])
        refine wpAnyH_take (i:=11) (v:=undef) rfl (by kernel_rfl) (by kernel_rfl) (by kernel_rfl) (fun _ _ _ h=>h) (Or.inr ⟨by rfl,rfl⟩) aD ?_
        (try simp only[dK,dL,dM,Act.put,dN,dO,dP])
        refine wpAnyH_take (i:=12) (v:=undef) rfl (by kernel_rfl) (by kernel_rfl) (by kernel_rfl) (fun _ _ _ h=>h) (Or.inr ⟨by rfl,rfl⟩) aD ?_
        (try simp only[dK,dL,dM,Act.put,dN,dO,dP])
        refine wpAnyH_take (i:=13) (v:=undef) rfl (by kernel_rfl) (by kernel_rfl) (by kernel_rfl) (fun _ _ _ h=>h) (Or.inr ⟨by rfl,rfl⟩) aD ?_
        (try simp only[dK,dL,dM,Act.put,dN,dO,dP])
        refine wpAnyH_take (i:=14) (v:=undef) rfl (by kernel_rfl) (by kernel_rfl) (by kernel_rfl) (fun _ _ _ h=>h) (Or.inr ⟨by rfl,rfl⟩) aD ?_
        (try simp only[dK,dL,dM,Act.put,dN,dO,dP])
        refine wpAnyH_take (i:=15) (v:=undef) rfl (by kernel_rfl) (by kernel_rfl) (by kernel_rfl) (fun _ _ _ h=>h) (Or.inr ⟨by rfl,rfl⟩) aD ?_
        (try simp only[dK,dL,dM,Act.put,dN,dO,dP])
        refine wpAnyH_take (i:=16) (v:=undef) rfl (by kernel_rfl) (by kernel_rfl) (by kernel_rfl) (fun _ _ _ h=>h) (Or.inr ⟨by rfl,rfl⟩) aD ?_
        (try simp only[dK,dL,dM,Act.put,dN,dO,dP])
        refine wpAnyH_take (i:=17) (v:=undef) rfl (by kernel_rfl) (by kernel_rfl) (by kernel_rfl) (fun _ _ _ h=>h) (Or.inr ⟨by rfl,rfl⟩) aD ?_
        (try simp only[dK,dL,dM,Act.put,dN,dO,dP])
        refine wpAnyH_take (i:=18) (v:=undef) rfl (by kernel_rfl) (by kernel_rfl) (by kernel_rfl) (fun _ _ _ h=>h) (Or.inr ⟨by rfl,rfl⟩) aD ?_
        (try simp only[dK,dL,dM,Act.put,dN,dO,dP])
        refine wpAnyH_take (i:=19) (v:=undef) rfl (by kernel_rfl) (by kernel_rfl) (by kernel_rfl) (fun _ _ _ h=>h) (Or.inr ⟨by rfl,rfl⟩) aD ?_
        (try simp only[dK,dL,dM,Act.put,dN,dO,dP])
        refine gp (i:=20) rfl aD ?_
        (try simp only[dK,dL,dM,Act.put,dN,dO,dP])
        refine wpAnyH_done (by kernel_rfl) ?_ _;clear HB0;go_wp2_with fail;have e2':=OI.out _ hb4;obtain⟨_,_,hbw,how⟩:=TC.out _ hb4;have VU:=(hb4).drew
        go_region_held3 (fun E=>E.cell? (J A.V 2)=zs A.ba 0)
         (first|exact e2'|assumption|exact OI.out _ (by assumption))
         (first|(go_at_call 85;refine (MQ.out _ (by first|exact Or.inl rfl|exact Or.inr (Or.inl rfl)|exact Or.inr (Or.inr rfl)) _).mono ?_;rintro e E ⟨rfl,rfl⟩)|(go_at_call 58;refine (KH.out _ (by first|exact Or.inl rfl|exact Or.inr (Or.inl rfl)|exact Or.inr (Or.inr rfl)) _ (by assumption)).mono ?_;rintro e w7 ⟨rfl,Dx⟩))
        obtain⟨_,_,KO,KQ⟩:=TC.out _ Dx;have TD:=U (zA KO KQ);clear hbw how KO KQ;go_wp2_with fail
        go_roundw
        case rel=>
         obtain⟨hc1,hp0⟩:=OJ.out;exact⟨xn,by rw[UM.out],⟨n0,by simpa using hc1,by simpa using hp0⟩,TD.out.1,rfl,TD.out.2⟩
        case measure=>
         obtain⟨hc1,hp0⟩:=OJ.out;rw[UM.out];exact Nat.lt_of_le_of_lt (zC (P:=fun n=>lU D n xn=true∧D.ku n xn=PP) ⟨by simpa using hc1,by simpa using hp0⟩) (Nat.lt_of_lt_of_eq (Nat.lt_succ_self n0) Xx.out.symm)
  . obtain rfl:k=64:=by omega
    have HO:=U (zA aY Z);clear aY Z hlt Y;go_wp2;go_ret;exact⟨av,cap,rfl,HO.out.1,HO.out.2⟩
structure VV (b:Nat) (w0:World) (D:St) (w:World):Prop where
 ex:∃ A:az,A.V=b∧Live A D w∧Grow (fun _=>none) w0 A.L w
def thn {α:Type} (x:Option α) (f:α->Bool):Bool:=match x with|some y=>f y|none=>false
theorem Bi {α:Type} {x:Option α} {f:α->Bool} (h:thn x f=true):∃ y,x=some y∧f y=true:=by
 cases x with
 |none=>cases h
 |some y=>exact⟨y,rfl,h⟩
theorem pg {a b:Bool} (h:(a&&b)=true):a=true∧b=true:=by simpa using h
theorem QW (n l:Nat) (h1:1<=n) (h2:n<=256) (h3:1<=l) (h4:l<=1099511627776) (w:World):
 zk 37 #[.agg #[I n,zu l]] w fun e E=>∃ b,e=.returned (.tuple #[R b 0,I 0])∧VV b w (new n l) E:=by
 refine (IG n l h1 h2 h3 h4 w).mono ?_;rintro e E ⟨A,rfl,hL,g⟩;exact⟨A.V,rfl,A,rfl,hL,g⟩
inductive Kept where
 |obj (k:Nat) (o:Obj)
 |row (size:Nat) (v:Value) (xs:List Value)
 |far (k:Nat) (o:Obj)
 |floor (n:Nat)
def Kept.holds (L:eH) (w:World):Kept->Prop
 |.obj k o=>Fix L w k o
 |.row size v xs=>iJ L w size v xs
 |.far k o=>L k=some .tmp∧w.heap[k]? =some o
 |.floor n=>n<=w.heap.size
theorem Kept.grow {L L':eH} {w E:World} (g:Grow L w L' E):∀ {k:Kept},k.holds L w->k.holds L' E
 |.obj _ _,h=>Fix.grow h g
 |.row _ _ _,h=>iJ.grow h g
 |.far _ _,h=>⟨(g.lab _ (gH h.2)).trans h.1,(g.keep _ (gH h.2) h.1).trans h.2⟩
 |.floor _,h=>fq h g.size
def kW (L:eH) (w:World):List Kept->Prop
 |[]=>True
 |k::ks=>k.holds L w∧kW L w ks
theorem kW.grow {L L':eH} {w E:World} (g:Grow L w L' E):∀ {ks:List Kept},kW L w ks->kW L' E ks
 |[],_=>trivial
 |_::_,⟨h,t⟩=>⟨Kept.grow g h,kW.grow g t⟩
structure JM (b:Nat) (w0:World) (ks:List Kept) (D:St) (w:World):Prop where
 ex:∃ A:az,A.V=b∧Live A D w∧Grow (fun _=>none) w0 A.L w∧kW A.L w ks
theorem VV.kt {b:Nat} {w0 w:World} {D:St} (h:VV b w0 D w):JM b w0 [] D w:=let ⟨A,e,l,g⟩:=h.ex;⟨A,e,l,g,trivial⟩
theorem JM.tail {b:Nat} {w0 w:World} {D:St} {k:Kept} {ks:List Kept} (h:JM b w0 (k::ks) D w):JM b w0 ks D w:=let ⟨A,e,l,g,_,t⟩:=h.ex;⟨A,e,l,g,t⟩
theorem JM.obj {b:Nat} {w0 w:World} {D:St} {ks:List Kept} {k:Nat} {o:Obj} (h:JM b w0 ks D w) (hm:.obj k o∈ks):w.heap[k]? =some o:=by
 obtain⟨A,_,_,_,t⟩:=h.ex
 induction ks with
 |nil=>cases hm
 |cons x ks ih=>
  rcases List.mem_cons.1 hm with rfl|hm
  . exact t.1.2
  . exact ih h.tail hm t.2
theorem JM.row {b:Nat} {w0 w:World} {D:St} {ks:List Kept} {size:Nat} {v:Value} {xs:List Value} (h:JM b w0 ks D w) (hm:.row size v xs∈ks):Ow.Row w 0 size v xs:=by
 obtain⟨A,_,_,_,t⟩:=h.ex
 induction ks with
 |nil=>cases hm
 |cons x ks ih=>
  rcases List.mem_cons.1 hm with rfl|hm
  . exact iJ.row t.1
  . exact ih h.tail hm t.2
theorem uW (e v x y:Int) (a1 a2:Option Addr) (n c1 c2:Nat) (ps:List (Nat×Nat)) (w:World) (h1:Ow.Row w 0 2 (.slice a1 n c1) (bQ ps)) (h2:Ow.Row w 0 2 (.slice a2 n c2) (bQ ps)):
 zk 12 #[.agg #[I e,I v,.slice a1 n c1,I x,I y],.agg #[I e,I v,.slice a2 n c2,I x,I y]] w fun e E=>e=.returned (.bool true)∧Below w.heap.size w E:=by
 have H1:=U h1;have H2:=U h2;clear h1 h2;go_enter Tryz.func12,Tryz.ntmps12;go_wp2_with (go_at_call 52;refine (vX _ _ ps _ _ _ (Row.alloc' (Row.alloc' H1.out _) _) (Row.alloc' (Row.alloc' H2.out _) _)).mono ?_;rintro e w9 ⟨rfl,q⟩;have HB:=U q;clear q);go_ret;refine⟨rfl,?_⟩;have Z:=HB.out;have h2:Below w.heap.size w ((w.alloc (.cells #[I e,I v,.slice a1 n c1,I x,I y] 46)).alloc (.cells #[I e,I v,.slice a2 n c2,I x,I y] 46)):=(((Below.refl _ _).alloc (zr _) _)).alloc (by simp) _;exact h2.trans (Z.mono h2.size)
theorem FE {w:World} {g:Nat} {T:TypeId} (xs:List Value) (n size:Nat) (h:w.heap[g]? =some (.cells xs.toArray T)) (hl:xs.length=n*size) (hn:n<=1000000):Ow.Row w 0 size (.slice (some (J g 0)) n n) xs:=by
 refine⟨_,n,n,rfl,hl,zr _,by unfold maxLen;omega,.inr ⟨g,0,rfl,zz _,gH h,fun j hj=>?_⟩⟩;rw[Nat.zero_add];have hj':j<xs.length:=by omega
 rw[ym hj'];simp[World.cell?,h,hj']
theorem Hf (w:World) (size:Nat):Ow.Row w 0 size (.slice none 0 0) []:=⟨none,0,0,rfl,by simp,zr _,by unfold maxLen;omega,.inl rfl⟩
structure Dl where
 id:Nat
 ax:Nat
 state:Nat
 aJ:Nat
 ay:Nat
 ops:List (En.Op×mo)
 deriving Repr,DecidableEq,Inhabited
structure Wd where
 D:St
 bq:List Dl
 ids:List Nat
 ops:List En.Op
 gone:List Nat
 deriving Repr,DecidableEq,Inhabited
structure dW where
 M:eH
 bw:Nat
 vd:Value
 vg:Value
 ds:List (Dl×Value)
 cs:Nat->List Value
def opC (o:En.Op):List Value:=[i64 o.kind,i64 o.F,i64 o.hi,i64 o.value]
def mE (d:Dl) (v:Value):List Value:=[i64 d.id,i64 d.ax,i64 d.state,u64 d.aJ,u64 d.ay,v]
def gL (l:List (Dl×Value)):List Value:=l.flatMap fun p=>mE p.1 p.2
def uj (o:En.Op) (r:mo) (vp:Value):List Value:=opC o++[i64 r.e,i64 r.value,vp,i64 r.over,i64 r.aI]
def dJ (V:Nat) (B:dW) (W:Wd):List Value:=[ptr V,B.vd]++(W.ids.map i64++(W.ops.flatMap opC++[B.vg]))
def I8 (L:eH) (w:World):List (En.Op×mo)->List Value->Prop
 |[],cs=>cs=[]
 |p::l,cs=>∃ vp cs',cs=uj p.1 p.2 vp++cs'∧iJ L w 2 vp (bQ p.2.aL)∧I8 L w l cs'
theorem I8.soft {L L':eH} {w E:World} (g:kF L w L' E):∀ {l:List (En.Op×mo)} {cs:List Value},I8 L w l cs->I8 L' E l cs
 |[],_,h=>h
 |_::_,_,⟨vp,cs',h1,h2,h3⟩=>⟨vp,cs',h1,h2.soft g,h3.soft g⟩
theorem I8.snoc {L:eH} {w:World}:∀ {l:List (En.Op×mo)} {cs:List Value} (_:I8 L w l cs) (o:En.Op) (r:mo) (vp:Value) (_:iJ L w 2 vp (bQ r.aL)),I8 L w (l++[(o,r)]) (cs++uj o r vp)
 |[],_,h,o,r,vp,f=>⟨vp,[],by rw[show _=_ from h];simp,f,rfl⟩
 |_::_,_,⟨YH,cs',h1,h2,h3⟩,o,r,vp,f=>⟨YH,_,by rw[h1,List.append_assoc],h2,h3.snoc o r vp f⟩
def vD (V:Nat) (B:dW) (W:Wd):bW->Entry
 |.bT=>.obj B.bw (dJ V B W) 38
 |.aQ=>.own B.vd 149 6 B.ds.length (gL B.ds)
 |.free=>.own B.vg 3 1 W.gone.length (W.gone.map i64)
 |.reads k=>match B.ds[k]? with|some p=>.own p.2 178 9 p.1.ops.length (B.cs k)|none=>.none
 |_=>.none
structure yC (A:az) (W:Wd) (B:dW) (w:World):Prop where
 tie:∀ b r,B.M b=some r->A.L b=some .tmp
 mem:Holds B.M w (vD A.V B W)
 cls:∀ k p,B.ds[k]? =some p->I8 A.L w p.1.ops (B.cs k)
 dl:B.ds.map (·.1)=W.bq
 i8:W.ids.length=8
 o8:W.ops.length=8
theorem yC.soft {A A':az} {W:Wd} {B:dW} {w E:World} (h:yC A W B w) (hbe:A'.V=A.V) (tie:∀ b r,B.M b=some r->A'.L b=some .tmp) (mem:Holds B.M E (vD A.V B W)) (s:kF A.L w A'.L E) (bF:St):yC A' {W with D:=bF} B E:=
 ⟨tie,by rw[hbe];exact mem,fun k p Y=>(h.cls k p Y).soft s,h.dl,h.i8,h.o8⟩
theorem yC.lt {A:az} {W:Wd} {B:dW} {w:World} (h:yC A W B w) {b:Nat} {r:bW} (Z:B.M b=some r):b<w.heap.size:=by
 rcases Nat.lt_or_ge b w.heap.size with h1|h1
 . exact h1
 . rw[h.mem.fresh b h1] at Z;cases Z
theorem yC.grow {A A':az} {W:Wd} {B:dW} {w E:World} (h:yC A W B w) (g:Grow A.L w A'.L E) (e:A'.V=A.V) (bF:St):yC A' {W with D:=bF} B E:=
 h.soft e (fun b r Z=>(g.lab b (h.lt Z)).trans (h.tie b r Z)) (h.mem.grow (fun b r Z hr=>g.keep b Z (h.tie b r hr)) (fun _ _=>rfl) (fun b Z=>h.mem.fresh b (fq g.size Z))) g.soft bF
theorem kF.trans {L L1 L2:eH} {w H w2:World} (g:kF L w L1 H) (h:kF L1 H L2 w2):kF L w L2 w2:=
 ⟨fq g.size h.size,fun b Z e=>(h.block b (yI Z g.size) (g.lab b Z e)).trans (g.block b Z e),fun b Z e=>h.lab b (yI Z g.size) (g.lab b Z e)⟩
theorem Kept.soft {L L':eH} {w E:World} (g:kF L w L' E):∀ {k:Kept},(∀ b o,k=.far b o->L b=some .tmp->b<w.heap.size->L' b=some .tmp∧E.heap[b]? =w.heap[b]?)->k.holds L w->k.holds L' E
 |.obj _ _,_,h=>Fix.soft h g
 |.row _ _ _,_,h=>iJ.soft h g
 |.far b o,f,h=>let ⟨e1,e2⟩:=f b o rfl h.1 (gH h.2);⟨e1,e2.trans h.2⟩
 |.floor _,_,h=>fq h g.size
theorem kW.soft {L L':eH} {w E:World} (g:kF L w L' E):∀ {ks:List Kept},(∀ b o,Kept.far b o∈ks->L b=some .tmp->b<w.heap.size->L' b=some .tmp∧E.heap[b]? =w.heap[b]?)->kW L w ks->kW L' E ks
 |[],_,_=>trivial
 |_::_,f,⟨h,t⟩=>⟨Kept.soft g (fun b o e=>f b o (e ▸ iG)) h,kW.soft g (fun b o e=>f b o (nV _ e)) t⟩
def KW (M L:eH) (w:World) (ks:List Kept):Prop:=kW L w ks∧∀ b o,Kept.far b o∈ks->M b=none
theorem KW.grow {M L L':eH} {w E:World} {ks:List Kept} (g:Grow L w L' E) (h:KW M L w ks):KW M L' E ks:=⟨kW.grow g h.1,h.2⟩
theorem KW.soft {M M' L L':eH} {w E:World} {ks:List Kept} (g:kF L w L' E) (f:∀ b,M b=none->L b=some .tmp->b<w.heap.size->L' b=some .tmp∧E.heap[b]? =w.heap[b]? ∧M' b=none) (h:KW M L w ks):KW M' L' E ks:=by
 have hL:∀ b o,Kept.far b o∈ks->L b=some .tmp∧b<w.heap.size:=by
  intro b o hm;obtain⟨t,hh⟩:=h;clear f hh
  induction ks with
  |nil=>cases hm
  |cons x ks ih=>
   rcases List.mem_cons.1 hm with rfl|hm
   . exact⟨t.1.1,gH t.1.2⟩
   . exact ih hm t.2
 exact⟨kW.soft g (fun b o hm h1 h2=>let ⟨e1,e2,_⟩:=f b (h.2 b o hm) h1 h2;⟨e1,e2⟩) h.1,fun b o hm=>(f b (h.2 b o hm) (hL b o hm).1 (hL b o hm).2).2.2⟩
theorem KW.obj {M L:eH} {w:World} {ks:List Kept} {k:Nat} {o:Obj} (f:Fix L w k o) (h:KW M L w ks):KW M L w (.obj k o::ks):=⟨⟨f,h.1⟩,fun b p hm=>by rcases List.mem_cons.1 hm with e|hm;cases e;exact h.2 b p hm⟩
theorem KW.row {M L:eH} {w:World} {ks:List Kept} {size:Nat} {v:Value} {xs:List Value} (f:iJ L w size v xs) (h:KW M L w ks):KW M L w (.row size v xs::ks):=⟨⟨f,h.1⟩,fun b p hm=>by rcases List.mem_cons.1 hm with e|hm;cases e;exact h.2 b p hm⟩
theorem KW.nil {M L:eH} {w:World}:KW M L w []:=⟨trivial,fun _ _ h=>by cases h⟩
structure WK (B:dW) (V:Nat) (w0:World) (ks:List Kept) (W:Wd) (w:World):Prop where
 ex:∃ A:az,A.V=V∧Live A W.D w∧yC A W B w∧Grow (fun _=>none) w0 A.L w∧KW B.M A.L w ks
section
variable {B:dW} {V:Nat} {w0 w E:World} {ks:List Kept} {W:Wd}
theorem WK.toBelow (h:WK B V w0 ks W w):Below w0.heap.size w0 w:=let ⟨_,_,_,_,g,_⟩:=h.ex;g.toBelow
theorem WK.below (h:WK B V w0 ks W w) (Z:Below w.heap.size w E):WK B V w0 ks W E:=
 let ⟨A,e,l,r,g,t⟩:=h.ex
 ⟨A,e,l.below Z,r.grow (Grow.below Z) rfl W.D,g.trans (Grow.below Z),KW.grow (Grow.below Z) t⟩
theorem WK.alloc (h:WK B V w0 ks W w) (o:Obj):WK B V w0 (.obj w.heap.size o::ks) W (w.alloc o):=
 let ⟨A,e,l,r,g,t⟩:=h.ex
 ⟨A,e,l.alloc _,r.grow (Grow.alloc _ _ _) rfl W.D,g.trans (Grow.alloc _ _ _),KW.obj (fA l.rep.mem.fresh _ rfl) (KW.grow (Grow.alloc _ _ _) t)⟩
theorem WK.drew (h:WK B V w0 ks W w):WK B V w0 ks W w.drew:=h.below (Below.refl _ _).drew
theorem WK.obj {k:Nat} {o:Obj} (h:WK B V w0 ks W w) (hm:.obj k o∈ks):w.heap[k]? =some o:=by
 obtain⟨A,e,l,r,g,t⟩:=h.ex;exact JM.obj ⟨A,e,l,g,t.1⟩ hm
theorem WK.row {size:Nat} {v:Value} {xs:List Value} (h:WK B V w0 ks W w) (hm:.row size v xs∈ks):Ow.Row w 0 size v xs:=by
 obtain⟨A,e,l,r,g,t⟩:=h.ex;exact JM.row ⟨A,e,l,g,t.1⟩ hm
theorem WK.keep {ks':List Kept} (h:WK B V w0 ks W w) (hs:∀ L,kW L w ks->kW L w ks') (hf:∀ b o,Kept.far b o∈ks'->Kept.far b o∈ks):WK B V w0 ks' W w:=
 let ⟨A,e,l,r,g,t⟩:=h.ex;⟨A,e,l,r,g,hs _ t.1,fun b o hm=>t.2 b o (hf b o hm)⟩
theorem WK.tail {k:Kept} (h:WK B V w0 (k::ks) W w):WK B V w0 ks W w:=h.keep (fun _ t=>t.2) (fun _ _ hm=>nV _ hm)
theorem WK.drop (h:WK B V w0 ks W w):WK B V w0 [] W w:=h.keep (fun _ _=>trivial) (fun _ _ hm=>by cases hm)
theorem WK.fZ (h:WK B V w0 ks W w) (i:Nat) {v:Value} (hv:(dJ V B W)[i]? =some v):w.cell? (J B.bw i)=some v∧w.frozen? (J B.bw i)=false:=by
 obtain⟨A,rfl,l,r,g,t⟩:=h.ex;exact⟨r.mem.cell (r:=.bT) rfl i hv,r.mem.frozen (r:=.bT) rfl i⟩
theorem WK.i8 (h:WK B V w0 ks W w):W.ids.length=8:=let ⟨_,_,_,r,_⟩:=h.ex;r.i8
theorem WK.o8 (h:WK B V w0 ks W w):W.ops.length=8:=let ⟨_,_,_,r,_⟩:=h.ex;r.o8
theorem WK.lt (h:WK B V w0 ks W w):B.bw<w.heap.size:=by
 obtain⟨A,rfl,l,r,g,t⟩:=h.ex;exact r.lt (r.mem.all .bT).1
theorem WK.bq (h:WK B V w0 ks W w):w.ownsRow 0 149 6 B.vd B.ds.length (gL B.ds):=let ⟨_,_,_,r,_⟩:=h.ex;(r.mem.all .aQ).1
theorem WK.gone (h:WK B V w0 ks W w):w.ownsRow 0 3 1 B.vg W.gone.length (W.gone.map i64):=let ⟨_,_,_,r,_⟩:=h.ex;(r.mem.all .free).1
theorem WK.dl (h:WK B V w0 ks W w):B.ds.map (·.1)=W.bq:=let ⟨_,_,_,r,_⟩:=h.ex;r.dl
theorem WK.KR (h:WK B V w0 ks W w):B.ds.length=W.bq.length:=by rw[<-h.dl];simp
end
theorem lK {V:Nat} {B:dW} {W:Wd} (h8:W.ids.length=8) {s:Nat} (hs:s<8):(dJ V B W)[2+s]? =some (i64 (W.ids.getD s 0)):=by
 unfold dJ;rw[EB (by simp),List.getElem?_append_left (by simp;omega)];simp[mM,ym (show s<W.ids.length by omega)]
theorem sU (l:List En.Op):(l.flatMap opC).length=l.length*4:=by
 induction l with
 |nil=>rfl
 |cons a l ih=>rw[List.flatMap_cons,jb,ih,List.length_cons,show (opC a).length=4 from rfl];omega
theorem Hg:∀ (l:List En.Op) (s j:Nat),j<4->(l.flatMap opC)[s*4+j]? =(l[s]?).bind fun o=>(opC o)[j]?
 |[],_,_,_=>rfl
 |o::l,0,j,hj=>by
  rw[List.flatMap_cons,Nat.zero_mul,Nat.zero_add,List.getElem?_append_left (by exact hj)];rfl
 |o::l,s+1,j,hj=>by
  rw[List.flatMap_cons,EB (by show 4<=_;omega),show (s+1)*4+j - (opC o).length=s*4+j by show _ - 4=_;omega,Hg l s j hj];rfl
theorem FH {V:Nat} {B:dW} {W:Wd} (h8:W.ids.length=8) (o8:W.ops.length=8) {s j:Nat} (hs:s<8) (hj:j<4):(dJ V B W)[10+(s*4+j)]? =(opC (W.ops.getD s default))[j]? :=by
 unfold dJ;have hl:(W.ops.flatMap opC).length=32:=by rw[sU,o8]
 rw[EB (by simp;omega),EB (by simp;omega),List.getElem?_append_left (by simp only[jb,List.length_cons,List.length_nil,List.length_map,hl,h8];omega)];rw[show 10+(s*4+j) - [ptr V,B.vd].length - (W.ids.map i64).length=s*4+j by simp only[jb,List.length_cons,List.length_nil,List.length_map,hl,h8];omega,Hg _ _ _ hj];simp[mM,ym (show s<W.ops.length by omega)]
theorem pq {V:Nat} {B:dW} {W:Wd} (h8:W.ids.length=8) (o8:W.ops.length=8):(dJ V B W)[42]? =some B.vg:=by
 unfold dJ;have hl:(W.ops.flatMap opC).length=32:=by rw[sU,o8]
 rw[EB (by simp),EB (by simp;omega),EB (by simp only[jb,List.length_cons,List.length_nil,List.length_map,hl,h8];omega),show 42 - [ptr V,B.vd].length - (W.ids.map i64).length - (W.ops.flatMap opC).length=0 by simp only[jb,List.length_cons,List.length_nil,List.length_map,hl,h8]];rfl
theorem yD {V:Nat} {B:dW} {W:Wd} (h8:W.ids.length=8) {s:Nat} (hs:s<8) (id:Nat):(dJ V B W).set (2+s) (i64 id)=dJ V B {W with ids:=W.ids.set s id}:=by
 unfold dJ;rw[List.set_append_right _ _ (by simp),List.set_append_left _ _ (by simp;omega)]
 congr 1
 rw[show 2+s - [ptr V,B.vd].length=s by simp];simp[List.map_set]
theorem vE {V:Nat} {B:dW} {W:Wd} (h8:W.ids.length=8) (o8:W.ops.length=8) (v:Value):(dJ V B W).set 42 v=dJ V {B with vg:=v} W:=by
 unfold dJ;have hl:(W.ops.flatMap opC).length=32:=by rw[sU,o8]
 rw[List.set_append_right _ _ (by simp),List.set_append_right _ _ (by simp;omega),List.set_append_right _ _ (by simp only[jb,List.length_cons,List.length_nil,List.length_map,hl,h8];omega),show 42 - [ptr V,B.vd].length - (W.ids.map i64).length - (W.ops.flatMap opC).length=0 by simp only[jb,List.length_cons,List.length_nil,List.length_map,hl,h8]];rfl
theorem Hl:∀ (l:List En.Op) (s:Nat) (o:En.Op),s<l.length->((((l.flatMap opC).set (s*4) (i64 o.kind)).set (s*4+1) (i64 o.F)).set (s*4+2) (i64 o.hi)).set (s*4+3) (i64 o.value)=(l.set s o).flatMap opC
 |[],_,_,h=>by cases h
 |o'::l,0,o,_=>by simp[opC]
 |o'::l,s+1,o,h=>by
  have:=Hl l s o (by simpa using h);rw[show (s+1)*4=s*4+4 by omega];simp only[List.flatMap_cons,opC,List.cons_append,List.nil_append,List.set_cons_succ,show s*4+4+1=s*4+1+4 by omega,show s*4+4+2=s*4+2+4 by omega,show s*4+4+3=s*4+3+4 by omega];rw[this]
theorem yE {V:Nat} {B:dW} {W:Wd} (h8:W.ids.length=8) (o8:W.ops.length=8) {s:Nat} (hs:s<8) (o:En.Op):((((dJ V B W).set (10+s*4) (i64 o.kind)).set (10+s*4+1) (i64 o.F)).set (10+s*4+2) (i64 o.hi)).set (10+s*4+3) (i64 o.value)=dJ V B {W with ops:=W.ops.set s o}:=by
 unfold dJ;have hl:(W.ops.flatMap opC).length=32:=by rw[sU,o8]
 have st:∀ (l:List Value) (i:Nat) (v:Value),l.length=32->i<32->([ptr V,B.vd]++(W.ids.map i64++(l++[B.vg]))).set (10+i) v=[ptr V,B.vd]++(W.ids.map i64++(l.set i v++[B.vg])):=by
  intro l i v hl hi;rw[List.set_append_right _ _ (by simp;omega),List.set_append_right _ _ (by simp;omega),List.set_append_left _ _ (by simp;omega)];rw[show 10+i - [ptr V,B.vd].length - (W.ids.map i64).length=i by simp only[List.length_cons,List.length_nil,List.length_map,h8];omega]
 rw[st _ _ _ hl (by omega),show 10+s*4+1=10+(s*4+1) by omega,st _ _ _ (by simp[hl]) (by omega),show 10+s*4+2=10+(s*4+2) by omega,st _ _ _ (by simp[hl]) (by omega),show 10+s*4+3=10+(s*4+3) by omega,st _ _ _ (by simp[hl]) (by omega),Hl _ _ _ (by omega)]
theorem KS {V:Nat} {B B':dW} {W W':Wd} (Z:B'.bw=B.bw) (hd:B'.vd=B.vd) (hg:B'.vg=B.vg) (hds:B'.ds=B.ds) (hcs:B'.cs=B.cs) (hgo:W'.gone=W.gone) (q:bW) (hq:q≠.bT):vD V B' W' q=vD V B W q:=by
 cases q<;>first|(exact absurd rfl hq)|(simp only[vD,Z,hd,hg,hds,hcs,hgo])
section
variable {B:dW} {V:Nat} {w0 w E:World} {ks:List Kept} {W:Wd}
theorem WK.put (h:WK B V w0 ks W w) (Z:But B.bw w E) (B':dW) (W':Wd) (hM:B'.M=B.M) (hbw:B'.bw=B.bw) (hvd:B'.vd=B.vd) (QX:B'.vg=B.vg) (hds:B'.ds=B.ds) (hcs:B'.cs=B.cs) (hσ:W'.D=W.D) (hdl:W'.bq=W.bq) (hgo:W'.gone=W.gone) (h8:W'.ids.length=8) (o8:W'.ops.length=8)
 (hc:E.heap[B.bw]? =some (.cells (dJ V B' W').toArray 38)):WK B' V w0 ks W' E:=by
 obtain⟨A,rfl,l,r,g,t⟩:=h.ex;have hl:A.L B.bw=some .tmp:=r.tie _ _ (r.mem.all .bT).1;have hm:B.M B.bw=some .bT:=(r.mem.all .bT).1;refine⟨A,rfl,by rw[hσ];exact l.but hl Z,⟨by rw[hM];exact r.tie,?_,?_,by rw[hds,hdl];exact r.dl,h8,o8⟩,g.but ?_ Z,KW.soft (Z.soft hl) (fun b hb1 hb2 _=>⟨hb2,Z.block b (by rintro rfl;rw[hm] at hb1;cases hb1),by rw[hM];exact hb1⟩) t⟩
 . rw[hM]
   refine r.mem.upd .bT ?_ (fun q hq=>KS hbw hvd QX hds hcs hgo q hq) (fun b q hb' hl' hq=>Z.block b ?_) (fun _ _=>rfl) (fun b hb'=>r.mem.fresh b (by rw[<-Z.size];exact hb'))
   . show Entry.Holds B.M E .bT (.obj B'.bw _ _)
     rw[hbw];exact⟨hm,hc⟩
   . rintro rfl
     rw[hm] at hl';exact hq (zj hl').symm
 . rw[hds,hcs]
   exact fun k p Y=>(r.cls k p Y).soft (Z.soft hl)
 . rcases Nat.lt_or_ge B.bw w0.heap.size with h1|h1
   . rw[g.lab _ h1] at hl;cases hl
   . exact h1
theorem WK.KU (h:WK B V w0 ks W w) {s:Nat} (hs:s<8) (id:Nat):WK B V w0 ks {W with ids:=W.ids.set s id} (w.setCell (J B.bw (2+s)) (i64 id)):=by
 refine h.put (But.setCell w (J B.bw (2+s)) _) B _ rfl rfl rfl rfl rfl rfl rfl rfl rfl (by simp[h.i8]) h.o8 ?_;obtain⟨A,rfl,l,r,g,t⟩:=h.ex;rw[heap_setCell_same (r.mem.all .bT).2,List.setIfInBounds_toArray,yD r.i8 hs]
theorem WK.TE (h:WK B V w0 ks W w) {s:Nat} (hs:s<8) (o:En.Op):WK B V w0 ks {W with ops:=W.ops.set s o} (w.setCells B.bw (10+s*4) (opC o)):=by
 refine h.put (But.setCells _ _ _ _) B _ rfl rfl rfl rfl rfl rfl rfl rfl rfl h.i8 (by simp[h.o8]) ?_;obtain⟨A,rfl,l,r,g,t⟩:=h.ex;have h1:=heap_setCell_same (r.mem.all .bT).2 (10+s*4) (i64 o.kind);have h2:=heap_setCell_same h1 (10+s*4+1) (i64 o.F);have h3:=heap_setCell_same h2 (10+s*4+1+1) (i64 o.hi);have h4:=heap_setCell_same h3 (10+s*4+1+1+1) (i64 o.value);refine Eq.trans h4 ?_;rw[List.setIfInBounds_toArray,List.setIfInBounds_toArray,List.setIfInBounds_toArray,List.setIfInBounds_toArray,yE r.i8 r.o8 hs]
end
section
variable {B:dW} {V:Nat} {w0 w E:World} {ks:List Kept} {W:Wd}
theorem WK.of {A A':az} {bF:St} (l:Live A W.D w) (r:yC A W B w) (g:Grow (fun _=>none) w0 A.L w) (t:KW B.M A.L w ks) (hL':Live A' bF E) (g':Grow A.L w A'.L E) (e':A'.V=A.V):WK B A.V w0 ks {W with D:=bF} E:=
 ⟨A',e',hL',r.grow g' e' bF,g.trans g',KW.grow g' t⟩
theorem KV (h:WK B V w0 ks W w) {s ax id:Nat} {aC:St} (hs:s<8) (hr:kU W.D s ax=some (aC,id)):
 zk 9 #[R V 0,I s,I ax] w fun e E=>e=.returned (.tuple #[I id,I 0])∧WK B V w0 ks {W with D:=aC} E:=by
 obtain⟨A,rfl,l,r,g,t⟩:=h.ex;refine (KN hs hr A w l).mono ?_;rintro e E ⟨A',rfl,hL',g',e'⟩;exact⟨rfl,WK.of l r g t hL' g' e'⟩
theorem KX (h:WK B V w0 ks W w) {s:Nat} {o:En.Op} {aC:St} (hs:s<8) (hr:jo W.D s o=some aC):
 zk 33 #[R V 0,I s,.agg #[I o.kind,I o.F,I o.hi,I o.value]] w fun e E=>e=.returned (I 0)∧WK B V w0 ks {W with D:=aC} E:=by
 obtain⟨A,rfl,l,r,g,t⟩:=h.ex;refine (KM hs hr A w l).mono ?_;rintro e E ⟨A',rfl,hL',g',e'⟩;exact⟨rfl,WK.of l r g t hL' g' e'⟩
theorem sV (h:WK B V w0 ks W w) {s kd:Nat} {r:mo} {aC:St} (hs:s<8) (hr:ig W.D s=some (aC,kd,r)):
 zk 34 #[R V 0,I s] w (fun e E=>∃ va vn vc,e=.returned (.tuple #[.agg #[I kd,I r.e,I r.value,.slice va vn vc,I r.over,I r.aI],I 0])∧vn=r.aL.length∧WK B V w0 (.row 2 (.slice va vn vc) (bQ r.aL)::ks) {W with D:=aC} E):=by
 obtain⟨A,rfl,l,r',g,t⟩:=h.ex;refine (Fy l hs hr).mono ?_;rintro e E ⟨A',vp,rfl,hf,hL',g',e'⟩;obtain⟨va,vn,vc,rfl⟩:=zy hf;have yX:vn=r.aL.length:=by
  obtain⟨a,n,c,e0,h1,_⟩:=hf;simp only[Value.slice.injEq] at e0;rw[mY] at h1;omega
 exact⟨va,vn,vc,rfl,yX,A',e',hL',r'.grow g' e' aC,g.trans g',KW.row hf (KW.grow g' t)⟩
theorem fF (h:WK B V w0 ks W w) (s:Nat) (hs:s<8):
 zk 10 #[R V 0,I s] w fun e E=>e=.returned (.agg (dF (W.D.status s)))∧WK B V w0 ks W E:=by
 obtain⟨A,rfl,l,r,g,t⟩:=h.ex;refine (FB l s hs).mono ?_;rintro e E ⟨rfl,Z⟩;exact⟨rfl,WK.below ⟨A,rfl,l,r,g,t⟩ Z⟩
theorem wR (h:WK B V w0 ks W w) (hx:W.D.word 0<18446744073709551616):
 zk 19 #[R V 0] w fun e E=>e=.returned (zu W.D.now)∧WK B V w0 ks W E:=by
 obtain⟨A,rfl,l,r,g,t⟩:=h.ex;refine (OB l.rep hx).mono ?_;rintro e E ⟨rfl,Z⟩;exact⟨rfl,WK.below ⟨A,rfl,l,r,g,t⟩ Z⟩
theorem iR (h:WK B V w0 ks W w):
 zk 56 #[R V 0] w fun e E=>e=.returned (I W.D.aA)∧w=E:=by
 obtain⟨A,rfl,l,r,g,t⟩:=h.ex;exact IY l.rep
theorem Hm (h:WK B V w0 ks W w):
 zk 13 #[R V 0] w fun e E=>∃ av cap,e=.returned (.slice av W.D.live.length cap)∧WK B V w0 ks W E:=by
 obtain⟨A,rfl,l,r,g,t⟩:=h.ex;refine (Dv l.rep).mono ?_;rintro e E ⟨av,cap,rfl,_,Z⟩;exact⟨av,cap,rfl,WK.below ⟨A,rfl,l,r,g,t⟩ Z⟩
theorem KY (h:WK B V w0 ks W w) (hok:sS W.D=true):
 zk 59 #[R V 0] w fun e E=>∃ av cap,e=.returned (.slice av W.D.aL.length cap)∧Ow.Row E 0 2 (.slice av W.D.aL.length cap) (bQ W.D.aL)∧WK B V w0 ks W E:=by
 obtain⟨A,rfl,l,r,g,t⟩:=h.ex;refine (I7 l.rep hok).mono ?_;rintro e E ⟨av,cap,rfl,ho,Z⟩;obtain⟨a,n,c,k1,k2,k3,k4,k5⟩:=GM ho;refine⟨av,cap,rfl,⟨a,n,c,k1,k2,k3,k4,?_⟩,WK.below ⟨A,rfl,l,r,g,t⟩ Z⟩
 rcases k5 with k5|⟨g',off,e1,e2,e3⟩
 . exact .inl k5
 . exact .inr ⟨g',off,e1,zz _,e3⟩
end
theorem QY:(Tryz.prog.info? 149).map (fun i=>(i.zero,i.size,i.bytes))=some (some (.agg #[I 0,I 0,I 0,zu 0,zu 0,.slice none 0 0]),6,64):=by kernel_rfl
theorem DD (l:List (Dl×Value)) (d:Dl) (v:Value):gL (l++[(d,v)])=gL l++mE d v:=by simp[gL]
section
variable {B:dW} {V:Nat} {w0 w E:World} {ks:List Kept} {W:Wd}
theorem WK.ge (h:WK B V w0 ks W w) {b:Nat} {r:bW} (Z:B.M b=some r):w0.heap.size<=b:=by
 obtain⟨A,rfl,l,r',g,t⟩:=h.ex
 rcases Nat.lt_or_ge b w0.heap.size with h1|h1
 . have:=r'.tie b r Z
   rw[g.lab _ h1] at this;cases this
 . exact h1
theorem Bj {M L L':eH} {H w2 w3:World} {v v':Value} {r q q':bW} {c:Nat} (hrow:Fz L H L' w2 v.ownBlock) (hc:M c=some q) (hv:∀ g,v.ownBlock=some g->M g=some q') (hg:H.grownBy w2 v.ownBlock) (h3:v'.ownBlock=v.ownBlock∨∀ g,v'.ownBlock=some g->H.heap.size<=g) (dE:But c w2 w3):
 ∀ b,M b=none->L b=some .tmp->b<H.heap.size->L' b=some .tmp∧w3.heap[b]? =H.heap[b]? ∧lW M v' r b=none:=by
 intro b h1 h2 hlt;refine⟨(hrow.lab b hlt).trans h2,(dE.block b ?_).trans (hg.block b hlt ?_),?_⟩
 . rintro rfl;rw[hc] at h1;cases h1
 . intro e;rw[hv b e.symm] at h1;cases h1
 . unfold lW
   rw[bu]
   . exact h1
   . intro e
     rcases h3 with h3|h3
     . rw[hv b (h3 ▸ e)] at h1;cases h1
     . have:=h3 b e;omega
theorem WK.OL {H:World} {v':Value} (h:WK B V w0 ks W w) (d:Dl) (hd:d.ops=[]) (Z:Below w.heap.size w H)
 (ho:E.ownsRow 0 149 6 v' (B.ds.length+1) (gL B.ds++mE d (.slice none 0 0))) (hg:H.grownBy E B.vd.ownBlock) (h3:v'.ownBlock=B.vd.ownBlock∨∀ g,v'.ownBlock=some g->H.heap.size<=g):
 ∃ B',B'.bw=B.bw∧E.cell? (J B.bw 1)=some B.vd∧E.frozen? (J B.bw 1)=false∧WK B' V w0 ks {W with bq:=W.bq++[d]} (E.setCell (J B.bw 1) v'):=by
 have h1:=h.below Z;have hge:∀ b r,B.M b=some r->w0.heap.size<=b:=fun b r=>h1.ge
 obtain⟨A,rfl,l,r,g,t⟩:=h1.ex;have qo:wQ A.L B.vd:=fun b Z=>r.tie b _ ((r.mem.all .aQ).2 b Z)
 obtain⟨L',hrow,KZ⟩:=rF l qo ho hg h3;have hgr:=r.mem.grown .aQ (v:=B.vd) (v':=v') (n':=B.ds.length+1) rfl hg ho h3;obtain⟨hm,hgm⟩:=hgr;have hc1:=hm.cell (r:=.bT) (b:=B.bw) (cs:=dJ A.V B W) (T:=38) (aT _ _ (by simp)) 1 (v:=B.vd) rfl;have hc2:=hm.frozen (r:=.bT) (b:=B.bw) (cs:=dJ A.V B W) (T:=38) (aT _ _ (by simp)) 1;have hp:=hm.put .bT (b:=B.bw) (cs:=dJ A.V B W) (T:=38) (aT _ _ (by simp)) 1 v';have hbw:B.M B.bw=some .bT:=(r.mem.all .bT).1;have hlt:B.bw<H.heap.size:=r.lt hbw;have hlb:L' B.bw=some .tmp:=(hrow.lab _ hlt).trans (r.tie _ _ hbw);have dE:=But.setCell E (J B.bw 1) v';have sW:=dE.soft hlb;refine⟨{B with M:=lW B.M v' .aQ,vd:=v',ds:=B.ds++[(d,.slice none 0 0)],cs:=fun k=>if k=B.ds.length then [] else B.cs k},rfl,hc1,hc2,{A with L:=L'},rfl,?_,⟨fun b q hbq=>?_,⟨fun q=>?_,hp.fresh⟩,fun k p Y=>?_,?_,r.i8,r.o8⟩,?_,KW.soft (hrow.soft.trans sW) (Bj (r:=.aQ) hrow hbw (fun g hg=>(r.mem.all .aQ).2 g hg) hg h3 dE) t⟩
 . exact (l.Bf hrow).but hlb dE
 . replace hbq:lW B.M v' .aQ b=some q:=hbq
   unfold lW at hbq
   split at hbq
   . rename_i hv
     exact KZ b hv
   . exact (hrow.lab b (r.lt hbq)).trans (r.tie b q hbq)
 . have hq:=hp.all q
   cases q with
   |bT=>exact hq
   |aQ=>
    rw[aT _ _ (by simp),fE] at hq;show Entry.Holds _ _ _ (.own v' _ 6 (B.ds++[(d,_)]).length (gL (B.ds++[(d,_)])));rw[DD,jb];exact hq
   |free=>rw[aT _ _ (by simp),aT _ _ (by simp)] at hq;exact hq
   |reads k=>
    rw[aT _ _ (by simp),aT _ _ (by simp)] at hq
    by_cases Y:k=B.ds.length
    . subst Y
      simp only[vD];rw[EB (zr _),Nat.sub_self];show Entry.Holds _ _ _ (.own (.slice none 0 0) _ 9 d.ops.length _);rw[hd];simp only[if_true,List.length_nil];exact⟨World.ownsRow_nil _ _ _ _,fun g hg=>by cases hg⟩
    . simp only[vD] at hq ⊢
      rw[bu Y]
      rcases Nat.lt_or_ge k B.ds.length with h4|h4
      . rw[List.getElem?_append_left h4];exact hq
      . rw[q9 (by simp;omega)];trivial
   |_=>trivial
 . by_cases hkl:k=B.ds.length
   . subst hkl
     rw[EB (zr _),Nat.sub_self] at Y;obtain rfl:=zj Y;rw[hd];show I8 _ _ [] (if B.ds.length=B.ds.length then [] else _);rw[aW rfl];rfl
   . have h4:k<B.ds.length:=by
      have:=(List.getElem?_eq_some_iff.1 Y).1;simp at this;omega
     rw[List.getElem?_append_left h4] at Y;show I8 L' _ _ (if k=B.ds.length then [] else B.cs k);rw[bu hkl];exact ((r.cls k p Y).soft hrow.soft).soft sW
 . rw[List.map_append,r.dl];rfl
 . exact (g.Bf hrow (fun b Z=>hge b _ ((r.mem.all .aQ).2 b Z))).but (hge _ _ hbw) dE
end
def oI (W:Wd) (s ax:Nat):Option Wd:=
 match kU W.D s ax with
 |some (aC,id)=>
  if id=W.bq.length+1∧W.ids.getD s 0=0∧aC.now=W.D.now+1∧W.D.word 0<18446744073709551616∧aC.word 0<18446744073709551616∧W.bq.length<100000 then
   some {W with D:=aC,ids:=W.ids.set s id,bq:=W.bq++[⟨id,ax,1,W.D.now+1,0,[]⟩]}
  else none
 |none=>none
theorem wS {B:dW} {V:Nat} {w0 w:World} {ks:List Kept} {W W':Wd} (h:WK B V w0 ks W w) {s ax:Nat} (hs:s<8) (hr:oI W s ax=some W'):
 zk 54 #[R B.bw 0,I s,I ax] w fun e E=>e=.returned (.bool true)∧∃ B',B'.bw=B.bw∧WK B' V w0 ks W' E:=by
 obtain⟨ii,hii,hz0,hz1,hz2⟩:=info_parts QY;unfold oI at hr
 split at hr
 . rename_i aC id hbe
   split at hr
   . rename_i hh
     obtain⟨h1,h2,h3,h4,h5,h6⟩:=hh;obtain rfl:=zj hr;have hdl:=h.KR;obtain⟨va,vc,hvd,hc1,hc2,_⟩:=Ow.bO h.bq;rw[hdl] at hvd;have i8:=h.i8;obtain⟨n,hn⟩:∃ n,n=W.bq.length:=⟨_,rfl⟩
     obtain⟨nw,hnw⟩:∃ nw,nw=W.D.now:=⟨_,rfl⟩
     have VW:nw<281474976710656:=by rw[hnw];unfold St.now aj;omega
     have N1:=U (wR h h4);have N2:Hid (∀ H,WK B V w0 ks W H->zk 9 #[R V 0,I s,I ax] H fun e E=>e=.returned (.tuple #[I id,I 0])∧WK B V w0 ks {W with D:=aC} E):=fun H q=>KV q hs hbe
     have N3:Hid (∀ H,WK B V w0 ks {W with D:=aC} H->zk 19 #[R V 0] H fun e E=>e=.returned (zu ((nw:Int)+1))∧WK B V w0 ks {W with D:=aC} E):=fun H q=>by
      have hh:=wR q h5;rw[show ({W with D:=aC}:Wd).D.now=nw+1 by rw[hnw];exact h3] at hh;exact hh
     rw[<-hnw] at N1;have C:Hid (∀ bF H,WK B V w0 ks {W with D:=bF} H->zS H B.bw 0 V 0∧H.cell? (J B.bw 1)=some (.slice va n vc)∧zT H B.bw (2+s) 0∧H.frozen? (J B.bw (2+s))=false):=fun bF H q=>by
      have y1:=(q.fZ 1 rfl).1;have y2:=q.fZ (2+s) (lK (W:={W with D:=bF}) i8 hs);rw[show ({W with D:=bF}:Wd).ids.getD s 0=0 from h2] at y2;rw[hvd,<-hn] at y1;exact⟨(q.fZ 0 rfl).1,y1,y2.1,y2.2⟩
     have zo:Hid (∀ H,WK B V w0 ks {W with D:=aC} H->(H.setCell (J B.bw (2+s)) (I id)).cell? (J B.bw 1)=some (.slice va n vc)∧WK B V w0 ks {W with D:=aC,ids:=W.ids.set s id} (H.setCell (J B.bw (2+s)) (I id))):=fun H q=>by
      have q2:=q.KU hs id;have y1:=(q2.fZ 1 rfl).1;rw[hvd,<-hn] at y1;exact⟨y1,q2⟩
     have x0:=(C.out W.D w h).1;have b0:((s:Int)<0)=False:=by simp
     have b1:((7:Int)<(s:Int))=False:=by simp;omega
     have b2:(0:Int)<=(s:Int):=by omega
     have b3:(s:Int)<8:=by omega
     have b4:decide ((s:Int)<0)=false:=by simp
     have b5:decide ((7:Int)<(s:Int))=false:=by simp;omega
     have b6:(7<s)=False:=by simp;omega
     have e1:((id:Int)==(n:Int)+1)=true:=by simp;omega
     have e2:((id:Int) !=(n:Int)+1)=false:=by simp;omega
     have e3:((id:Int)=(n:Int)+1)=True:=by simp;omega
     have n1:IntKind.i64.wrap ((n:Int)+1)=(n:Int)+1:=by rw[je];omega
     have n2:IntKind.u64.wrap ((nw:Int)+1)=(nw:Int)+1:=by rw[IntKind.wrap_u64];omega
     have T0:=U h;have HV:=U (zA hvd (zA hdl (zA hn (zA h1 (zA h6 hnw)))));clear h hr hbe h1 h2 h3 h4 h5 h6 hvd hdl hn hnw i8 hs hc1 hc2 VW;go_enter Tryz.func54,Tryz.ntmps54;go_upto_region 8 with (first|(go_at_call 19;refine N1.out.mono ?_;clear T0;rintro e H ⟨rfl,q⟩;obtain⟨x1,_⟩:=C.out W.D H q;have T1:=U q;clear q)|(go_at_call 9;refine (N2.out _ T1.out).mono ?_;rintro e w2 ⟨rfl,q⟩;obtain⟨y0,y1,y2,y3⟩:=C.out aC w2 q;have T2:=U q;clear q T1)|(go_at_call 19;refine (N3.out _ T2.out).mono ?_;clear T2;rintro e w3 ⟨rfl,q⟩;obtain⟨z0,z1,z2,z3⟩:=C.out aC w3 q;obtain⟨z4,q2⟩:=zo.out w3 q;have T3:=U q2;clear q q2))
     go_wp2_with (refine Ow.dZ _ rfl (.tmp 83) (.tmp 89) 33 rfl 0 149 ii _ 6 64 Tryz.underlying33 hii hz0 hz1 hz2 rfl (by decide) (.slice va n vc) n (gL B.ds) rfl (by have k:=(T3.out.alloc (.cells #[I id,I ax,I 1,zu ((nw:Int)+1),zu 0,.slice none 0 0] 149)).bq;rw[HV.out.1,HV.out.2.1,<-HV.out.2.2.1] at k;exact k) (J w3.heap.size 0) 1 1 (by omega) [I id,I ax,I 1,zu ((nw:Int)+1),zu 0,.slice none 0 0] rfl rfl (fun j u hu=>Ow.iC (w3.setCell (J B.bw (2+s)) (I id)) [I id,I ax,I 1,zu ((nw:Int)+1),zu 0,.slice none 0 0] _ w3.heap.size (by simp[World.setCell]) j u hu) (by intro u hu;simp at hu;rcases hu with rfl|rfl|rfl|rfl|rfl|rfl<;>rfl) (by have:=HV.out.2.2.1;have:=HV.out.2.2.2.2.1;unfold maxLen;omega) (by have:=HV.out.2.2.1;have:=HV.out.2.2.2.2.1;omega) (zz _) ?_;intro v' w8 q1 q2 q3;obtain⟨B',r1,r2,r3,r4⟩:=T3.out.OL ⟨id,ax,1,nw+1,0,[]⟩ rfl ((Below.refl _ _).alloc (zr _) (.cells #[I id,I ax,I 1,zu ((nw:Int)+1),zu 0,.slice none 0 0] 149)) (by have k1:=HV.out.2.1;have k2:=HV.out.2.2.1;rw[k1,<-k2];exact q1) (by rw[HV.out.1,<-HV.out.2.2.1];exact q2) (by rw[HV.out.1,<-HV.out.2.2.1];exact q3);rw[HV.out.1,<-HV.out.2.2.1] at r2;obtain⟨XA,XB,rfl,_⟩:=Ow.bO q1;have T4:=U (zA r1 r4);clear q1 q2 q3 r1 r4);go_ret;have k:=T4.out;rw[HV.out.2.2.2.2.2] at k;exact⟨rfl,B',k.1,k.2⟩
   . cases hr
 . cases hr
theorem OM (o:En.Op) (h:nX o=true) (w:World):zk 84 #[.agg #[I o.kind,I o.F,I o.hi,I o.value]] w fun e E=>e=.returned (.bool true)∧Below w.heap.size w E:=by
 have Z:Below w.heap.size w (w.alloc (.cells #[I o.kind,I o.F,I o.hi,I o.value] 27)):=(Below.refl _ _).alloc (zr _) _;have HB:=U Z;clear Z;obtain⟨kind,F,hi,value⟩:=o;unfold nX at h;simp only at h HB ⊢;have Y:kind=1∨kind=2∨kind=3∨kind=4∨kind=5∨kind=6∨kind=7:=by
  by_cases h1:kind=1;exact .inl h1
  by_cases h2:kind=2;exact .inr (.inl h2)
  by_cases h3:kind=3;exact .inr (.inr (.inl h3))
  by_cases h4:kind=4;exact .inr (.inr (.inr (.inl h4)))
  by_cases h5:kind=5;exact .inr (.inr (.inr (.inr (.inl h5))))
  by_cases h6:kind=6;exact .inr (.inr (.inr (.inr (.inr (.inl h6)))))
  by_cases h7:kind=7;exact .inr (.inr (.inr (.inr (.inr (.inr h7)))))
  simp[h1,h2,h3,h4,h5,h6,h7] at h
 have p0:decide ((0:Int)<=(F:Int))=true:=by simp
 have p1:((0:Int)<=(F:Int))=True:=by simp
 have p2:decide ((0:Int)<=(value:Int))=true:=by simp
 have p3:((0:Int)<=(value:Int))=True:=by simp
 rcases Y with rfl|rfl|rfl|rfl|rfl|rfl|rfl
 . simp only[gT,zd,beq_iff_eq] at h
   obtain⟨⟨hx,rfl⟩,rfl⟩:=h;have a1:decide ((F:Int)<=(63:Int))=true:=by simp;omega
   have a2:((F:Int)<=(63:Int))=True:=by simp;omega
   clear hx;go_enter Tryz.func84,Tryz.ntmps84;go_wp2;go_ret;exact⟨rfl,HB.out⟩
 . simp only[gT,zd,beq_iff_eq] at h
   obtain⟨⟨hx,rfl⟩,hy⟩:=h;have a1:decide ((F:Int)<=(63:Int))=true:=by simp;omega
   have a2:((F:Int)<=(63:Int))=True:=by simp;omega
   have c1:decide ((value:Int)<=(65535:Int))=true:=by simp;omega
   have c2:((value:Int)<=(65535:Int))=True:=by simp;omega
   clear hx hy;go_enter Tryz.func84,Tryz.ntmps84;go_wp2;go_ret;exact⟨rfl,HB.out⟩
 . simp only[gT,zd,beq_iff_eq] at h
   obtain⟨⟨hx,rfl⟩,hy⟩:=h;have a1:decide ((F:Int)<=(63:Int))=true:=by simp;omega
   have a2:((F:Int)<=(63:Int))=True:=by simp;omega
   have c1:decide ((value:Int)<=(65535:Int))=true:=by simp;omega
   have c2:((value:Int)<=(65535:Int))=True:=by simp;omega
   clear hx hy;go_enter Tryz.func84,Tryz.ntmps84;go_wp2;go_ret;exact⟨rfl,HB.out⟩
 . simp only[gT,zd,beq_iff_eq] at h
   obtain⟨⟨hx,rfl⟩,rfl⟩:=h;have a1:decide ((F:Int)<=(63:Int))=true:=by simp;omega
   have a2:((F:Int)<=(63:Int))=True:=by simp;omega
   clear hx;go_enter Tryz.func84,Tryz.ntmps84;go_wp2;go_ret;exact⟨rfl,HB.out⟩
 . simp only[gT,zd,beq_iff_eq] at h
   obtain⟨⟨⟨hx,hy⟩,hz⟩,rfl⟩:=h;have a1:decide ((F:Int)<=(63:Int))=true:=by simp;omega
   have a2:((F:Int)<=(63:Int))=True:=by simp;omega
   have b1:decide ((F:Int)<=(hi:Int))=true:=by simp;omega
   have b2:((F:Int)<=(hi:Int))=True:=by simp;omega
   have e1:decide ((hi:Int)<=(63:Int))=true:=by simp;omega
   have e2:((hi:Int)<=(63:Int))=True:=by simp;omega
   clear hx hy hz;go_enter Tryz.func84,Tryz.ntmps84;go_wp2;go_ret;exact⟨rfl,HB.out⟩
 . simp only[gT,zd,beq_iff_eq] at h
   obtain⟨⟨rfl,rfl⟩,rfl⟩:=h;go_enter Tryz.func84,Tryz.ntmps84;go_wp2;go_ret;exact⟨rfl,HB.out⟩
 . simp only[gT,zd,beq_iff_eq] at h
   obtain⟨⟨rfl,rfl⟩,rfl⟩:=h;go_enter Tryz.func84,Tryz.ntmps84;go_wp2;go_ret;exact⟨rfl,HB.out⟩
theorem au {w:World} {g:Nat} {cs:Array Value} {T:TypeId} (h:w.heap[g]? =some (.cells cs T)) (i:Nat) {v:Value} (hv:cs[i]? =some v):w.cell? (J g i)=some v:=by
 rw[cell_of_row w g i _ _ _ h];exact hv
def kX (W:Wd) (s:Nat) (o:En.Op):Option Wd:=
 match jo W.D s o with
 |some aC=>if nX o=true∧W.ids.getD s 0≠0∧(W.D.status s).busy=false∧((W.D.status s).ops<12∨6<=o.kind)∧(aC.status s).busy=true then some {W with D:=aC,ops:=W.ops.set s o} else none
 |none=>none
theorem DF {V:Nat} {B:dW} {W:Wd} (h8:W.ids.length=8) (o8:W.ops.length=8):(dJ V B W).length=43:=by
 have hl:(W.ops.flatMap opC).length=32:=by rw[sU,o8]
 unfold dJ;simp only[jb,List.length_cons,List.length_nil,List.length_map,hl,h8]
theorem WK.there {B:dW} {V:Nat} {w0 w:World} {ks:List Kept} {W:Wd} (h:WK B V w0 ks W w) {s:Nat} (hs:s<8):w.there B.bw (10+s*4) 4:=by
 intro j hj;have hlen:=DF (V:=V) (B:=B) h.i8 h.o8;obtain⟨v,hv⟩:∃ v,(dJ V B W)[10+s*4+j]? =some v:=⟨_,ym (by rw[hlen];omega)⟩
 have:=h.fZ _ hv;exact⟨by rw[this.1];rfl,this.2⟩
theorem pz {B:dW} {V:Nat} {w0 w:World} {ks:List Kept} {W W':Wd} (h:WK B V w0 ks W w) {s:Nat} (hs:s<8) (o:En.Op) (hr:kX W s o=some W'):
 zk 55 #[R B.bw 0,I s,.agg #[I o.kind,I o.F,I o.hi,I o.value]] w fun e E=>e=.returned (.bool true)∧WK B V w0 ks W' E:=by
 unfold kX at hr
 split at hr
 . rename_i aC hbe
   split at hr
   . rename_i hh
     obtain⟨h1,h2,h3,h4,h5⟩:=hh;obtain rfl:=zj hr;obtain⟨lv,wt,a1,a2,a3,a4,a5,ops,hst,hop⟩:∃ lv wt a1 a2 a3 a4 a5,∃ ops:Nat,dF (W.D.status s)=#[.bool lv,.bool false,.bool wt,I a1,I a2,I a3,zu a4,zu a5,I ops]∧((o.kind<6∧ops<12)∨6<=o.kind):=by
      refine⟨(W.D.status s).live,(W.D.status s).waits,((W.D.status s).id:Int),((W.D.status s).ax:Int),((W.D.status s).state:Int),((W.D.status s).aJ:Int),((W.D.status s).ay:Int),(W.D.status s).ops,?_,by omega⟩;unfold dF;rw[h3]
     obtain⟨id,hid,QZ⟩:∃ id,id=W.ids.getD s 0∧id≠0:=⟨_,rfl,h2⟩
     have N1:Hid (∀ ks H,WK B V w0 ks W H->zk 10 #[R V 0,I s] H fun e E=>e=.returned (.agg #[.bool lv,.bool false,.bool wt,I a1,I a2,I a3,zu a4,zu a5,I ops])∧WK B V w0 ks W E):=fun ks H q=>by
      have hh:=fF q s hs;rw[hst] at hh;exact hh
     have N2:Hid (∀ ks H,WK B V w0 ks W H->zk 33 #[R V 0,I s,.agg #[I o.kind,I o.F,I o.hi,I o.value]] H fun e E=>e=.returned (I 0)∧WK B V w0 ks {W with D:=aC} E):=fun ks H q=>KX q hs hbe
     have N3:Hid (∀ H,zk 84 #[.agg #[I o.kind,I o.F,I o.hi,I o.value]] H fun e E=>e=.returned (.bool true)∧Below H.heap.size H E):=fun H=>OM o h1 H
     have N4:Hid (∀ W2 ks H,W2.D=aC->WK B V w0 ks W2 H->zk 10 #[R V 0,I s] H fun e E=>∃ y1 y2 y3 y4 y5 y6 y7 y8,e=.returned (.agg #[y1,.bool true,y2,y3,y4,y5,y6,y7,y8])∧WK B V w0 ks W2 E):=fun W2 ks H e2 q=>by
      have hh:=fF q s hs;unfold dF at hh;rw[e2,h5] at hh;exact hh.mono fun e E x=>⟨_,_,_,_,_,_,_,_,x.1,x.2⟩
     have i8:=h.i8;have C:Hid (∀ bF ks H,WK B V w0 ks {W with D:=bF} H->zS H B.bw 0 V 0∧zT H B.bw (2+s) id):=fun bF ks H q=>by
      have y2:=q.fZ (2+s) (lK (W:={W with D:=bF}) i8 hs);rw[show ({W with D:=bF}:Wd).ids.getD s 0=id from hid.symm] at y2;exact⟨(q.fZ 0 rfl).1,y2.1⟩
     have zo:Hid (∀ ks H,WK B V w0 ks {W with D:=aC} H->(∃ u0 u1 u2 u3,H.cell? ⟨B.bw,10+s*4,none⟩=some u0∧H.cell? ⟨B.bw,10+s*4+1,none⟩=some u1∧H.cell? ⟨B.bw,10+s*4+2,none⟩=some u2∧H.cell? ⟨B.bw,10+s*4+3,none⟩=some u3∧H.frozen? ⟨B.bw,10+s*4,none⟩=false∧H.frozen? ⟨B.bw,10+s*4+1,none⟩=false∧H.frozen? ⟨B.bw,10+s*4+2,none⟩=false∧H.frozen? ⟨B.bw,10+s*4+3,none⟩=false)∧WK B V w0 ks {W with D:=aC,ops:=W.ops.set s o} (H.setCells B.bw (10+s*4) [I o.kind,I o.F,I o.hi,I o.value])):=fun ks H q=>by
      refine⟨?_,q.TE hs o⟩;obtain⟨t0,f0⟩:=q.there hs 0 (by omega);obtain⟨t1,f1⟩:=q.there hs 1 (by omega);obtain⟨t2,f2⟩:=q.there hs 2 (by omega);obtain⟨t3,f3⟩:=q.there hs 3 (by omega);obtain⟨u0,k0⟩:=ou.1 t0;obtain⟨u1,k1⟩:=ou.1 t1;obtain⟨u2,k2⟩:=ou.1 t2;obtain⟨u3,k3⟩:=ou.1 t3;exact⟨u0,u1,u2,u3,k0,k1,k2,k3,f0,f1,f2,f3⟩
     have O0:Hid (∀ ks W1 H g,WK B V w0 (.obj g (.cells #[I o.kind,I o.F,I o.hi,I o.value] 27)::ks) W1 H->zT H g 0 o.kind∧zT H g 1 o.F∧zT H g 2 o.hi∧zT H g 3 o.value):=fun ks W1 H g q=>by
      have Z:=q.obj (iG);exact⟨au Z 0 rfl,au Z 1 rfl,au Z 2 rfl,au Z 3 rfl⟩
     have O1:Hid (∀ ks W1 H g,WK B V w0 (.obj g (.cells #[.bool lv,.bool false,.bool wt,I a1,I a2,I a3,zu a4,zu a5,I ops] 42)::ks) W1 H->zB H g 1 false∧zT H g 8 ops):=fun ks W1 H g q=>by
      have Z:=q.obj (iG);exact⟨au Z 1 rfl,au Z 8 rfl⟩
     have b0:((s:Int)<0)=False:=by simp
     have b1:((7:Int)<(s:Int))=False:=by simp;omega
     have b2:(0:Int)<=(s:Int):=by omega
     have b3:(s:Int)<8:=by omega
     have b4:decide ((s:Int)<0)=false:=by simp
     have b5:decide ((7:Int)<(s:Int))=false:=by simp;omega
     have b6:(7<s)=False:=by simp;omega
     have e1:((id:Int)==0)=false:=by simp;omega
     have e3:((id:Int)=0)=False:=by simp;omega
     have e4:(id=0)=False:=by simp;omega
     have T0:=U (h.alloc (.cells #[I o.kind,I o.F,I o.hi,I o.value] 27));have G0:=U h.lt;have x0:=(C.out W.D _ _ T0.out).1;obtain⟨o0,o1,o2,o3⟩:=O0.out _ _ _ _ T0.out;have HO:Hid (∀ ks W1 H g,WK B V w0 (.obj g (.cells #[.bool lv,.bool false,.bool wt,I a1,I a2,I a3,zu a4,zu a5,I ops] 42)::.obj w.heap.size (.cells #[I o.kind,I o.F,I o.hi,I o.value] 27)::ks) W1 H->zT H w.heap.size 0 o.kind∧zT H w.heap.size 1 o.F∧zT H w.heap.size 2 o.hi∧zT H w.heap.size 3 o.value):=fun ks W1 H g q=>O0.out _ _ _ _ q.tail
     clear h hr hbe h1 h2 h3 h4 h5 hst i8 hid QZ hs;have hd:(decide ((o.kind:Int)<6)=true∧((o.kind:Int)<6)=True∧(o.kind<6)=True∧decide ((12:Int)<=(ops:Int))=false∧((12:Int)<=(ops:Int))=False∧(12<=ops)=False)∨(decide ((o.kind:Int)<6)=false∧((o.kind:Int)<6)=False∧(o.kind<6)=False):=by
      rcases hop with hop|hop
      . exact .inl ⟨by simp;omega,by simp;omega,by simp;omega,by simp;omega,by simp;omega,by simp;omega⟩
      . exact .inr ⟨by simp;omega,by simp;omega,by simp;omega⟩
     rcases hd with ⟨d1,d2,d3,d4,d5,d6⟩|⟨d1,d2,d3⟩
     all_goals (
      clear hop
      go_enter Tryz.func55,Tryz.ntmps55
      go_upto_region 2 with (go_at_call 10;refine (N1.out _ _ T0.out).mono ?_;rintro e H ⟨rfl,q⟩;have T1:=U (q.alloc (.cells #[.bool lv,.bool false,.bool wt,I a1,I a2,I a3,zu a4,zu a5,I ops] 42));clear q T0)
      generalize H.alloc _=v1 at*
      generalize H.heap.size=g1 at*
      generalize w.heap.size=g0 at*
      have zD:=U T1.out.drew
      obtain⟨u0,u1⟩:=C.out W.D _ _ T1.out
      obtain⟨p0,p1,p2,p3⟩:=HO.out _ _ _ _ T1.out
      obtain⟨p4,p5⟩:=O1.out _ _ _ _ T1.out
      have zF:Hid (∀ E,WK B V w0 (.obj g1 (.cells #[.bool lv,.bool false,.bool wt,I a1,I a2,I a3,zu a4,zu a5,I ops] 42)::.obj g0 (.cells #[I o.kind,I o.F,I o.hi,I o.value] 27)::ks) {W with D:=aC} E->zS E B.bw 0 V 0∧zT E g0 0 o.kind∧zT E g0 1 o.F∧zT E g0 2 o.hi∧zT E g0 3 o.value):=fun E q=>by
       obtain⟨c0,c1⟩:=C.out aC _ _ q
       obtain⟨d0,d1,d2,d3⟩:=HO.out _ _ _ _ q
       exact⟨c0,d0,d1,d2,d3⟩
      clear x0 o0 o1 o2 o3
      go_region_held3 (fun E=>zS E B.bw 0 V 0∧zT E g0 0 o.kind∧zT E g0 1 o.F∧zT E g0 2 o.hi∧zT E g0 3 o.value)
       (first|exact⟨u0,p0,p1,p2,p3⟩|assumption|go_keep|exact zF.out _ (by assumption))
       (first|(go_at_call 33;refine (N2.out _ _ zD.out).mono ?_;rintro e w2 ⟨rfl,q⟩))
      obtain⟨x0,x1⟩:=C.out aC _ _ q
      obtain⟨y0,y1,y2,y3⟩:=HO.out _ _ _ _ q
      obtain⟨y4,y5⟩:=O1.out _ _ _ _ q
      have T2:=U q
      clear q T1 zD u0 u1 p0 p1 p2 p3 p4 p5 zF
      go_upto_region 17 with (go_at_call 84;refine (N3.out _).mono ?_;rintro e w3 ⟨rfl,Z⟩;have q3:=T2.out.below Z;obtain⟨Q0,YI⟩:=C.out aC _ _ q3;obtain⟨z0,z1,z2,z3⟩:=HO.out _ _ _ _ q3;obtain⟨z4,z5⟩:=O1.out _ _ _ _ q3;have T3:=U q3;clear q3 Z)
      obtain⟨⟨u0,u1,u2,u3,k0,k1,k2,k3,f0,f1,f2,f3⟩,m2⟩:=zo.out _ _ T3.out
      have T4:=U m2
      clear m2
      go_region
      have T5:Hid (WK B V w0 _ {W with D:=aC,ops:=W.ops.set s o} (World.drew ((((w3.setCell ⟨B.bw,10+s*4,none⟩ (I o.kind)).setCell ⟨B.bw,10+s*4+1,none⟩ (I o.F)).setCell ⟨B.bw,10+s*4+2,none⟩ (I o.hi)).setCell ⟨B.bw,10+s*4+3,none⟩ (I o.value)))):=U T4.out.drew
      clear T4 T3 T2 k0 k1 k2 k3 f0 f1 f2 f3 z0 z1 z2 z3 z4 z5 x0 x1 Q0 YI y0 y1 y2 y3 y4 y5
      generalize World.drew _=w5 at*
      have x0:=(T5.out.fZ 0 rfl).1
      go_wp2_with (go_at_call 10;refine (N4.out _ _ _ rfl T5.out).mono ?_;rintro e w6 ⟨y1,y2,y3,y4,y5,y6,y7,y8,rfl,q⟩;have hf:=J5 (.bool true) y1 y2 y3 y4 y5 y6 y7 y8;have T6:=U q;clear q T5)
      go_ret
      exact⟨rfl,T6.out.tail.tail⟩
     )
   . cases hr
 . cases hr
def DI (n l:Nat):Wd:={D:=new n l,bq:=[],ids:=List.replicate 8 0,ops:=List.replicate 8 ⟨0,0,0,0⟩,gone:=[]}
theorem Q3 {V:Nat} {w0 w:World} {D:St} (h:JM V w0 [] D w):WK ⟨jy (fun _=>none) w.heap.size .bT,w.heap.size,.slice none 0 0,.slice none 0 0,[],fun _=>[]⟩ V w0 [] {D:=D,bq:=[],ids:=List.replicate 8 0,ops:=List.replicate 8 ⟨0,0,0,0⟩,gone:=[]} (w.alloc (.cells (dJ V ⟨jy (fun _=>none) w.heap.size .bT,w.heap.size,.slice none 0 0,.slice none 0 0,[],fun _=>[]⟩ {D:=D,bq:=[],ids:=List.replicate 8 0,ops:=List.replicate 8 ⟨0,0,0,0⟩,gone:=[]}).toArray 38)):=by
 obtain⟨A,rfl,l,g,_⟩:=h.ex;obtain⟨_,g1,t1,t2⟩:=l.rep.o5 (.cells (dJ A.V ⟨jy (fun _=>none) w.heap.size .bT,w.heap.size,.slice none 0 0,.slice none 0 0,[],fun _=>[]⟩ {D:=D,bq:=[],ids:=List.replicate 8 0,ops:=List.replicate 8 ⟨0,0,0,0⟩,gone:=[]}).toArray 38);refine⟨A.tmp w.heap.size,rfl,l.o5 _,⟨fun b r Z=>?_,⟨fun q=>?_,fun b Z=>?_⟩,(fun k p Y=>by cases Y),rfl,rfl,rfl⟩,g.trans g1,KW.nil⟩
 . by_cases hbb:b=w.heap.size
   . subst hbb;exact t1
   . replace Z:jy (fun _=>none) w.heap.size bW.bT b=some r:=Z
     rw[eO hbb] at Z;cases Z
 . cases q with
   |bT=>exact⟨(kG _ _ _:jy (fun _=>none) w.heap.size bW.bT w.heap.size=_),t2⟩
   |aQ=>exact⟨World.ownsRow_nil _ _ _ _,fun g hg=>by cases hg⟩
   |free=>exact⟨World.ownsRow_nil _ _ _ _,fun g hg=>by cases hg⟩
   |reads k=>exact trivial
   |_=>exact trivial
 . have:w.heap.size+1<=b:=by simpa using Z
   exact (eO (by omega):jy (fun _=>none) w.heap.size bW.bT b=none)
theorem DJ (n l:Nat) (h1:1<=n) (h2:n<=256) (h3:1<=l) (h4:l<=1099511627776) (w:World):
 zk 7 #[I n,zu l] w fun e E=>∃ B V,e=.returned (R B.bw 0)∧WK B V w [] (DI n l) E:=by
 have HN:Hid (zk 37 #[.agg #[I n,zu l]] w fun e E=>∃ b,e=.returned (.tuple #[R b 0,I 0])∧JM b w [] (new n l) E):=(QW n l h1 h2 h3 h4 w).mono fun e E ⟨b,h,q⟩=>⟨b,h,q.kt⟩
 clear h1 h2 h3 h4;go_enter Tryz.func7,Tryz.ntmps7;go_wp2_with (go_at_call 37;refine HN.out.mono ?_;rintro e H ⟨V,rfl,q⟩;have T1:=U q;clear q);go_ret;exact⟨_,_,rfl,Q3 T1.out⟩
end Go.Proofs.YthicolbbmjfkfaaGreat.Em
