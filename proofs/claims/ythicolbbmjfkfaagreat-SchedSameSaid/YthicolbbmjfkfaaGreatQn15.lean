import Derived.Test.YthicolbbmjfkfaaGreatQn14
import Derived.Lib.AppendZerosOnto
set_option linter.unusedVariables false
set_option linter.unusedSimpArgs false
set_option maxRecDepth 100000
set_option maxHeartbeats 1600000
namespace Go.Proofs.YthicolbbmjfkfaaGreat.Em
open Go.ChangeShapes Go.WideShapes Go.ChangeAt Go.RowKit En
section
variable {L L':dE} {w E:World}
theorem kW.soft {v:Value} {xs:List Value} (f:kW L w v xs) (h:kE L w L' E):kW L' E v xs:=by
 refine⟨f.1.soft h,fun g off n cap hv=>?_⟩
 rcases f.2 g off n cap hv with h0|⟨cs,hc⟩
 . exact .inl h0
 . by_cases hn:n=0
   . exact .inl hn
   . obtain⟨ad,n',cap',e1,e2,e3,e4,e5⟩:=f.1
     obtain⟨rfl,rfl,rfl⟩:ad=za g off∧n'=n∧cap'=cap:=by rw[hv] at e1;simp at e1;exact⟨e1.1.symm,e1.2.1.symm,e1.2.2.symm⟩
     obtain⟨g',off',e6,e7,e8,_⟩:=e5.resolve_left hn;obtain⟨rfl,rfl⟩:g=g'∧off=off':=by simpa using e6
     exact .inr ⟨cs,(h.block g e8 e7).trans hc⟩
theorem rC.soft (h:kE L w L' E):∀ {l:List Ev} {xs:List Value},rC L w l xs->rC L' E l xs
 |[],_,f=>f
 |_::_,_,⟨vp,ys,h1,h2,h3⟩=>⟨vp,ys,h1,h2.soft h,rC.soft h h3⟩
structure JE (L:dE) (w:World) (L':dE) (E:World) (ob:Option Nat):Prop where
 os:E.os=w.os
 tape:E.tape=w.tape
 output:E.output=w.output
 size:w.heap.size<=E.heap.size
 block:∀ k,k<w.heap.size->some k≠ob->E.heap[k]? =w.heap[k]?
 lab:∀ k,k<w.heap.size->L' k=L k
 fresh:∀ k,E.heap.size<=k->L' k=none
 tmp:∀ b,ob=some b->L b=some .tmp
theorem JE.soft {ob:Option Nat} (h:JE L w L' E ob):kE L w L' E:=⟨h.size,fun b hb e=>h.block b hb (by intro hh;rw[h.tmp b hh.symm] at e;cases e),fun b hb e=>(h.lab b hb).trans e⟩
end
theorem O9 (A:au) (L:dE) (D:St) (q:bU):bq {A with L:=L} D q=bq A D q:=by cases q<;>rfl
theorem aC.LH {A:au} {D:St} {w E:World} {L':dE} {ob:Option Nat} (hR:aC A D w) (h:JE A.L w L' E ob):aC {A with L:=L'} D E:=by
 refine⟨⟨fun r=>?_,h.fresh⟩,hR.ev.soft h.soft,hR.sl,hR.nw,hR.nt,hR.nv,hR.n8,hR.nc⟩;rw[O9]
 by_cases hr:r=.tmp
 . subst hr;trivial
 . refine (hR.mem.all r).frame (fun k Z hk'=>h.block k Z ?_) h.lab
   intro hh;rw[h.tmp k hh.symm] at hk';exact hr (zj hk').symm
theorem Live.LH {A:au} {D:St} {w E:World} {L':dE} {ob:Option Nat} (hL:Live A D w) (h:JE A.L w L' E ob):Live {A with L:=L'} D E:=
 ⟨hL.rep.LH h,hL.mp,hL.mt,fun s hs c hc=>let ⟨e1,k,e2,e3⟩:=hL.call s hs c hc;⟨e1,k,e2,(show ny (kp A D s) L' E (A.bA s) k from e3.soft h.soft)⟩,hL.idle,hL.sx.soft rfl h.soft⟩
theorem Grow.LH {L0 L L':dE} {w0 w E:World} {ob:Option Nat} (g:Grow L0 w0 L w) (h:JE L w L' E ob) (hb:∀ b,ob=some b->w0.heap.size<=b):Grow L0 w0 L' E:=
 have hne:∀ k,k<w0.heap.size->some k≠ob:=fun k Z hh=>by have:=hb k hh.symm;omega
 ⟨h.os.trans g.os,h.tape.trans g.tape,h.output.trans g.output,gy g.size h.size,fun k Z hl=>(h.block k (sG Z g.size) (hne k Z)).trans (g.block k Z hl),fun k Z=>(h.lab k (sG Z g.size)).trans (g.lab k Z),fun k Z hl=>(h.block k (sG Z g.size) (hne k Z)).trans (g.keep k Z hl)⟩
def uQ (L:dE) (v:Value):Prop:=∀ b,v.ownBlock=some b->L b=some .tmp
theorem Gg {A:au} {D:St} {w E:World} {v v':Value} {base:Nat} {e:TypeId} {size n:Nat} {xs:List Value} (hL:Live A D w) (hv:uQ A.L v) (aU:E.ownsRow base e size v' n xs) (hg:w.grownBy E v.ownBlock) (h3:v'.ownBlock=v.ownBlock∨∀ g,v'.ownBlock=some g->w.heap.size<=g):
 ∃ L',JE A.L w L' E v.ownBlock∧uQ L' v':=by
 have hf:∀ k,E.heap.size<=k->A.L k=none:=fun k Z=>hL.rep.mem.fresh k (gy hg.size Z)
 by_cases hs:v'.ownBlock=v.ownBlock
 . exact⟨A.L,⟨hg.os,hg.tape,hg.output,hg.size,hg.block,fun _ _=>rfl,hf,hv⟩,fun b hb=>hv b (hs.symm.trans hb)⟩
 . cases hb:v'.ownBlock with
   |none=>exact⟨A.L,⟨hg.os,hg.tape,hg.output,hg.size,hg.block,fun _ _=>rfl,hf,hv⟩,fun b hb'=>by rw[hb] at hb';cases hb'⟩
   |some g=>
    have hge:=(h3.resolve_left hs) g hb;have hlt:=(aU.lt g hb).2;refine⟨kD A.L g .tmp,⟨hg.os,hg.tape,hg.output,hg.size,hg.block,fun k Z=>fF (by omega),fun k Z=>?_,hv⟩,fun b hb'=>?_⟩
    . rw[fF (by omega)];exact hf k Z
    . obtain rfl:g=b:=zj (hb.symm.trans hb')
      exact kU _ _ _
def UA (L:dE) (w:World) (size:Nat) (v:Value) (xs:List Value):Prop:=Ow.Row w 0 size v xs∧uQ L v
theorem Grow.soft {L L':dE} {w E:World} (g:Grow L w L' E):kE L w L' E:=⟨g.size,g.block,fun b hb e=>(g.lab b hb).trans e⟩
def cO (D:St) (s:Nat) (o:En.Op) (t:bL):St:=if iB o then (({D with seq:=D.seq+1}:St).aK s (gN o (D.seq+1))) else (({(D.bK s {t with ops:=t.ops+1}) with seq:=D.seq+1}:St).aK s (gN o (D.seq+1)))
def jh (D:St) (s:Nat) (o:En.Op):Option St:=
 match D.aj.getD s none with
 |some t=>
  if p9 o=true∧(D.calls.getD s none).isNone=true∧(t.ops<12∨(iB o=true∧t.ops<1000000))∧D.seq<4000000000000000000∧s<D.calls.length∧s<D.aj.length∧nV (cO D s o t) s=true then
   match (cO D s o t).first s with
   |(dU,k)=>
    match dU.calls.getD s none with
    |some c4=>if jL D dU s=true then some (dU.aK s {c4 with k:=some k}) else none
    |none=>none
  else none
 |none=>none
theorem Iy {D:St} {s:Nat} (c:dN) (h:s<D.calls.length):(D.aK s c).calls.getD s none=some c:=by
 unfold St.aK;simp[mM,List.getElem?_set,h]
theorem Pb {D:St} {s:Nat} (t:bL) (h:s<D.aj.length):(D.bK s t).aj.getD s none=some t:=by
 unfold St.bK;simp[mM,List.getElem?_set,h]
theorem DV {D aH:St} {s:Nat} {o:En.Op} (hs:s<8) (h:jh D s o=some aH):O8 D s o aH 0:=by
 intro A w hL;unfold jh at h
 split at h
 . rename_i t ht
   split at h
   . rename_i hh
     obtain⟨ho,hn,hop,Ct,hcl,htl,hof⟩:=hh;have hn':D.calls.getD s none=none:=by simpa using hn
     split at h
     rename_i dU k hf
     split at h
     . rename_i c4 hc4
       split at h
       . rename_i hoth
         obtain rfl:=zj h;have hcq:=tX hoth;unfold cO at hof hf
         cases he:iB o with
         |true=>
          rw[he] at hof hf;simp only[if_true] at hof hf;exact FW hL s hs t ht o ho he hn' (by omega) Ct (Iw (t:=t) ht (Iy _ hcl) hof) dU k hf c4 hc4 hcq
         |false=>
          rw[he] at hof hf;simp only[Bool.false_eq_true,if_false] at hof hf;exact DL hL s hs t ht o ho he hn' (hop.resolve_right (fun h=>by rw[he] at h;cases h.1)) Ct (Iw (t:={t with ops:=t.ops+1}) (Pb _ htl) (Iy _ hcl) hof) dU k hf c4 hc4 hcq
       . cases h
     . cases h
   . cases h
 . cases h
def Pd (D:St) (s az:Nat) (aH:St) (id:Nat):Prop:=∀ A w,Live A D w->zk 9 #[R A.H 0,I s,I az] w (Lx A w aH id)
def bM (D:St) (s az:Nat) (aD:St):St:=
 ((((({aD with aB:=D.aB+1}:St).cB 0 (D.word 0) (aW (ai (D.word 0)+1) 0)).put (D.place (D.aB+1)) (pack 1 0)).put (1+s) (ai (D.word 0)+1)).bK s (fU (D.aB+1) az (ai (D.word 0)+1))).event {kind:=1,t:=D.aB+1,n:=ai (D.word 0)+1,op:=⟨0,0,0,az⟩}
def jP (D:St) (s az:Nat):Option (St×Nat):=
 if 1<=az∧az<=3∧(D.aj.getD s none).isNone=true∧(D.calls.getD s none).isNone=true∧D.aB<2000∧D.word 0<18446744073709551616∧ai (D.word 0)<281474976710000∧ai (D.word 0)<D.limit∧D.count<3000000000000000000∧D.aT.length<1000000 then
  if aZ (D.word 0)=0 then some (bM D s az D.tick,D.aB+1)
  else if aZ (D.word 0)<=2000 then some (bM D s az (D.tick.dx (D.word 0)),D.aB+1)
  else none
 else none
theorem DW {D aH:St} {s az id:Nat} (hs:s<8) (h:jP D s az=some (aH,id)):Pd D s az aH id:=by
 intro A w hL;unfold jP at h
 split at h
 . rename_i hh
   obtain⟨h1,h2,h3,h4,h5,h6,h7,h8,h9,h10⟩:=hh
   split at h
   . rename_i hl
     simp only[Option.some.injEq,iQ] at h;obtain⟨rfl,rfl⟩:=h;exact Jw hL s hs az h1 h2 (by simpa using h3) (by simpa using h4) h5 h6 h7 h8 hl h9 h10
   . rename_i hl
     split at h
     . rename_i hl2
       simp only[Option.some.injEq,iQ] at h;obtain⟨rfl,rfl⟩:=h;exact Ga hL s hs az h1 h2 (by simpa using h3) (by simpa using h4) h5 h6 h7 h8 ⟨by omega,hl2⟩ h9 h10
     . cases h
 . cases h
theorem dS.at {L:dE} {w:World} {size:Nat} {g n cap:Nat} {xs:List Value} (h:dS L w size (.slice (some (J g 0)) n cap) xs) {j:Nat} {v:Value} (hj:xs[j]? =some v):w.cell? (J g j)=some v:=by
 obtain⟨a,n',cap',h1,h2,h3,h4,h5⟩:=h;have hlt:j<xs.length:=(List.getElem?_eq_some_iff.1 hj).1;simp only[Value.slice.injEq] at h1;obtain⟨rfl,rfl,rfl⟩:=h1
 rcases h5 with h5|⟨g',off,e1,e2,e3,e4⟩
 . subst h5;omega
 . simp only[Option.some.injEq,Addr.mk.injEq] at e1
   obtain⟨rfl,rfl,_⟩:=e1;have:=e4 j (by omega);rw[Nat.zero_add,hj] at this;exact this
theorem dS.row {L:dE} {w:World} {size:Nat} {v:Value} {xs:List Value} (h:dS L w size v xs):Ow.Row w 0 size v xs:=by
 obtain⟨a,n,cap,h1,h2,h3,h4,h5⟩:=h;refine⟨a,n,cap,h1,h2,h3,h4,?_⟩
 rcases h5 with h5|⟨g,off,e1,e2,e3,e4⟩
 . exact .inl h5
 . exact .inr ⟨g,off,e1,zz _,e3,e4⟩
theorem JF {L:dE} {w:World} {base:Nat} {e:TypeId} {size:Nat} {a:Option Addr} {n cap:Nat} {xs:List Value} (h:w.ownsRow base e size (.slice a n cap) n xs) (ht:uQ L (.slice a n cap)):UA L w size (.slice a n n) xs:=by
 obtain⟨a',cap',e1,h1,h2,h3⟩:=Ow.bN h;simp only[Value.slice.injEq] at e1;obtain⟨rfl,_,rfl⟩:=e1;refine⟨?_,fun b hb=>ht b (by cases a with|none=>cases hb|some a=>exact hb)⟩;obtain⟨a0,n0,c0,e0,k1,k2,k3,k4⟩:=h3;refine⟨a0,n0,c0,e0,k1,k2,k3,?_⟩
 rcases k4 with k4|⟨g,off,e1,e2,e3,e4⟩
 . exact .inl k4
 . exact .inr ⟨g,off,e1,zz _,e3,e4⟩
theorem DX {w:World} {base:Nat} {e:TypeId} {size:Nat} {a:Option Addr} {n cap:Nat} {xs:List Value} (h:w.ownsRow base e size (.slice a n cap) n xs):∀ b,(Value.slice a n n).ownBlock=some b->base<=b:=
 fun b hb=>(h.lt b (by cases a with|none=>cases hb|some a=>exact hb)).1
def book0 (H ba bw bp bs bv:Nat):au where
 L:=fun k=>if k=H then some .df else if k=ba then some .arena else if k=bw then some .words else if k=bp then some .bO else if k=bs then some .tags else if k=bv then some .values else none
 H:=H
 ba:=ba
 bw:=bw
 bp:=bp
 bs:=bs
 bv:=bv
 bt:=fun _=>0
 bm:=fun _=>0
 bc:=fun _=>0
 bx:=fun _ _=>0
 eZ:=.slice none 0 0
 jF:=.slice none 0 0
 iV:=.slice none 0 0
 hcut:=false
 fP:=0
 dX:=.nilFunc
 eH:=fun _=>.slice none 0 0
 fG:=fun _=>.slice none 0 0
 dY:=fun _=>.slice none 0 0
 aY:=fun _=>.slice none 0 0
 bA:=fun _=>.nilFunc
 bF:=fun _=>.pointer none
 gL:=[]
 dV:=[]
 mp:=0
 mt:=fun _=>0
 lS:=fun _=>false
theorem DY {α:Type} (n s:Nat) (d:α):(List.replicate n d).getD s d=d:=by
 rw[mM,List.getElem?_replicate]
 split<;>rfl
theorem Pe {w:World} {n l H ba bw bp bs bv:Nat} (hn:1<=n∧n<=256)
 (d:H≠ba∧H≠bw∧H≠bp∧H≠bs∧H≠bv∧ba≠bw∧ba≠bp∧ba≠bs∧ba≠bv∧bw≠bp∧bw≠bs∧bw≠bv∧bp≠bs∧bp≠bv∧bs≠bv)
 (h1:w.heap[H]? =some (.cells #[I n,zu l,R ba 0,R bp 0,.slice (some (J bv 0)) n n,.pointer none,.pointer none,.pointer none,.pointer none,.pointer none,.pointer none,.pointer none,.pointer none,.pointer none,.pointer none,.pointer none,.pointer none,.pointer none,.pointer none,.pointer none,.pointer none,I 0,I 0,I 0,.slice none 0 0,.nilFunc,zu 0,.slice none 0 0,.bool false] 111))
 (h2:w.heap[ba]? =some (.cells #[.slice (some (J bw 0)) (73+n*3+2000+1) (73+n*3+2000+1),I 0] 184))
 (h3:w.heap[bw]? =some (.cells (madeCells #[zu 0] (73+n*3+2000+1)) 186))
 (h4:w.heap[bp]? =some (.cells #[.slice (some (J bs 0)) n n,I 65535,.slice none 0 0,I 0,.int .u32 0,.int .i32 0,.int .u32 0] 208))
 (h5:w.heap[bs]? =some (.cells (madeCells #[I 0,.bool false] (n*2)) 243))
 (h6:w.heap[bv]? =some (.cells (madeCells #[I 0,I 0] (n*2)) 190)):Live (book0 H ba bw bp bs bv) (new n l) w:=by
 obtain⟨d1,d2,d3,d4,d5,d6,d7,d8,d9,UB,Zf,Zg,Zh,Zj,Zk⟩:=d;have hto:∀ (a:Array Value) (l:List Value),a.toList=l->a=l.toArray:=fun a l h=>by rw[<-h]
 have e3:=hto _ _ (toList_madeCells_one (zu 0) (73+n*3+2000+1));have e5:=hto _ _ (lY (I 0) (.bool false) n);have e6:=hto _ _ (lY (I 0) (I 0) n);rw[e3] at h3;rw[e5] at h5;rw[e6] at h6;have htx:∀ s,(new n l).aj.getD s none=none:=fun s=>DY 8 s none
 have hcl:∀ s,(new n l).calls.getD s none=none:=fun s=>DY 8 s none
 have hm:Holds (book0 H ba bw bp bs bv).L w (bq (book0 H ba bw bp bs bv) (new n l)):=by
  refine⟨fun r=>?_,fun b hb=>?_⟩
  . cases r
    case df=>exact⟨by simp[book0],h1⟩
    case arena=>exact⟨by simp[book0,Ne.symm d1],by simpa [bq,o8,new,book0,i64] using h2⟩
    case words=>exact⟨by simp[book0,Ne.symm d2,Ne.symm d6],by simpa [bq,new,book0,u64] using h3⟩
    case bO=>exact⟨by simp[book0,Ne.symm d3,Ne.symm d7,Ne.symm UB],by simpa [bq,mo,jb,new,book0,i64] using h4⟩
    case tags=>exact⟨by simp[book0,Ne.symm d4,Ne.symm d8,Ne.symm Zf,Ne.symm Zh],by simpa [bq,zC,new,book0,i64] using h5⟩
    case values=>exact⟨by simp[book0,Ne.symm d5,Ne.symm d9,Ne.symm Zg,Ne.symm Zj,Ne.symm Zk],by simpa [bq,o9,new,book0,i64] using h6⟩
    case free=>exact⟨World.ownsRow_nil _ 0 _ _,fun g hg=>by cases hg⟩
    case aT=>exact⟨World.ownsRow_nil _ 0 _ _,fun g hg=>by cases hg⟩
    case cut=>trivial
    case tmp=>trivial
    case fw s=>simp only[bq,htx];trivial
    case map s=>simp only[bq,htx];trivial
    case cell s F=>simp only[bq,htx];trivial
    case keys s=>simp only[bq,htx];trivial
    case reads s=>simp only[bq,htx];trivial
    case aP s=>simp only[bq,htx];trivial
    case call s=>simp only[bq,hcl];trivial
    case aO s=>simp only[bq,hcl];trivial
  . have l1:=fA h1
    have l2:=fA h2;have l3:=fA h3;have l4:=fA h4;have l5:=fA h5;have l6:=fA h6;show (if b=H then some bU.df else _)=none;rw[aR (by omega),aR (by omega),aR (by omega),aR (by omega),aR (by omega),aR (by omega)]
 refine⟨⟨hm,rfl,hn,by simp[new],by simp[new],by simp[new],by simp[new],by simp[new]⟩,rfl,fun _=>rfl,fun s _ c hc=>absurd ((hcl s).symm.trans hc) (by simp),fun s _ _=>rfl,⟨rfl,.inl ⟨rfl,rfl,rfl⟩⟩⟩
theorem JG (n l:Nat) (h1:1<=n) (h2:n<=256) (h3:1<=l) (h4:l<=1099511627776) (w:World):zk 37 #[.agg #[I n,zu l]] w fun e E=>∃ A,e=.returned (.tuple #[R A.H 0,I 0])∧Live A (new n l) E∧Grow (fun _=>none) w A.L E:=by
 have hco:=zH (Re n l h1 h2 h3 h4);have Yn:=zH (fun w=>Lr (73+n*3+2000+1) (by omega) (by omega) w);have hpn:=zH (fun w=>OQ n h1 (by omega) w);have hmv:=fun w=>DF n (by omega) w
 have ea:((73+n*3+2000+1:Nat):Int)=73+(n:Int)*3+2000+1:=by omega
 rw[ea] at Yn;have n1:IntKind.i64.wrap ((n:Int)*3)=(n:Int)*3:=by rw[jG];omega
 have n2:IntKind.i64.wrap (73+(n:Int)*3)=73+(n:Int)*3:=by rw[jG];omega
 have n3:IntKind.i64.wrap (73+(n:Int)*3+2000)=73+(n:Int)*3+2000:=by rw[jG];omega
 have n4:IntKind.i64.wrap (73+(n:Int)*3+2000+1)=73+(n:Int)*3+2000+1:=by rw[jG];omega
 have HN:=zH (zA h1 h2);have x0:(w.alloc (.cells #[I n,zu l] 66)).cell? (J w.heap.size 0)=zt n:=by rw[cell_of_row _ _ 0 _ _ _ (heap_alloc_new w _)];rfl
 have x1:(w.alloc (.cells #[I n,zu l] 66)).cell? (J w.heap.size 1)=zv l:=by rw[cell_of_row _ _ 1 _ _ _ (heap_alloc_new w _)];rfl
 have HC:Hid (∀ Y,Below (w.alloc (.cells #[I n,zu l] 66)).heap.size (w.alloc (.cells #[I n,zu l] 66)) Y->zT Y w.heap.size 0 n∧zV Y w.heap.size 1 l∧w.heap.size<Y.heap.size):=by
  intro Y hb;have hs:=kr w (.cells #[I n,zu l] 66);have hz:=hb.size;exact⟨(hb.cell (p:=(J w.heap.size 0)) (by rw[hs];exact Nat.lt_succ_self _)).trans x0,(hb.cell (p:=(J w.heap.size 1)) (by rw[hs];exact Nat.lt_succ_self _)).trans x1,by omega⟩
 have HB2:Hid (∀ (Y w2:World) (a b:Obj),w2=(Y.alloc a).alloc b->w.heap.size<Y.heap.size->Y.cell? (J w.heap.size 0)=zt n->Y.cell? (J w.heap.size 1)=zv l->zT w2 w.heap.size 0 n∧zV w2 w.heap.size 1 l∧w.heap.size<w2.heap.size):=by
  rintro Y w2 a b rfl hl k0 k1;have hb:Below Y.heap.size Y ((Y.alloc a).alloc b):=((Below.refl _ _).alloc (zr _) _).alloc (by simp) _;exact⟨(hb.cell (p:=(J w.heap.size 0)) hl).trans k0,(hb.cell (p:=(J w.heap.size 1)) hl).trans k1,sG hl hb.size⟩
 clear h1 h2 h3 h4 ea;go_enter Tryz.func37,Tryz.ntmps37;go_wp2_with (first|(go_at_call 76;refine (hco.out _).mono ?_;rintro e Y ⟨rfl,hb⟩;obtain⟨y0,y1,hsz⟩:=HC.out Y hb;have HB:=zH (zA hb hsz);clear hb hsz)|(go_at_call 77;refine (Yn.out _).mono ?_;rintro e w2 ⟨rfl,hw2⟩;obtain⟨z0,z1,hl2⟩:=HB2.out Y w2 _ _ hw2 HB.out.2 y0 y1;have H2:=zH (zA hw2 hl2);clear hw2 hl2)|(go_at_call 78;refine (hpn.out _).mono ?_;rintro e w3 ⟨rfl,hw3⟩;obtain⟨u0,u1,hl3⟩:=HB2.out w2 w3 _ _ hw3 H2.out.2 z0 z1;have H3:=zH (zA hw3 hl3);clear hw3 hl3));have v0:(w3.alloc (.cells (madeCells #[I 0,I 0] (n*2)) 190)).cell? (J w.heap.size 0)=zt n:=by rw[World.cell?_alloc_past _ _ _ H3.out.2];exact u0
 have v1:(w3.alloc (.cells (madeCells #[I 0,I 0] (n*2)) 190)).cell? (J w.heap.size 1)=zv l:=by rw[World.cell?_alloc_past _ _ _ H3.out.2];exact u1
 go_region
 go_wp2_with fail
 go_ret2
 obtain⟨hw2,_⟩:=H2.out;obtain⟨hw3,_⟩:=H3.out;obtain⟨hb1,hl1⟩:=HB.out;have BH:∀ (w:World) (a b:Obj),((w.alloc a).alloc b).heap[w.heap.size]? =some a:=fun w a b=>(Below.heap_alloc _ _ _ (by simp)).trans (heap_alloc_new w a)
 have s2:w2.heap.size=Y.heap.size+2:=by rw[hw2];simp
 have s3:w3.heap.size=w2.heap.size+2:=by rw[hw3];simp
 have SY:∀ (w:World) (a b:Obj),Below w.heap.size w ((w.alloc a).alloc b):=fun w a b=>((Below.refl _ _).alloc (zr _) _).alloc (by simp) _
 have Yo:=BH Y (.cells (madeCells #[zu 0] (73+n*3+2000+1)) 186) (.cells #[.slice (some (J Y.heap.size 0)) (73+n*3+2000+1) (73+n*3+2000+1),I 0] 184);have Yp:=heap_alloc2_new Y (.cells (madeCells #[zu 0] (73+n*3+2000+1)) 186) (.cells #[.slice (some (J Y.heap.size 0)) (73+n*3+2000+1) (73+n*3+2000+1),I 0] 184);rw[<-hw2] at Yo Yp;have Yq:=BH w2 (.cells (madeCells #[I 0,.bool false] (n*2)) 243) (.cells #[.slice (some (J w2.heap.size 0)) n n,I 65535,.slice none 0 0,I 0,.int .u32 0,.int .i32 0,.int .u32 0] 208);have Yr:=heap_alloc2_new w2 (.cells (madeCells #[I 0,.bool false] (n*2)) 243) (.cells #[.slice (some (J w2.heap.size 0)) n n,I 65535,.slice none 0 0,I 0,.int .u32 0,.int .i32 0,.int .u32 0] 208);rw[<-hw3] at Yq Yr;have b12:Below Y.heap.size Y w2:=by rw[hw2];exact SY _ _ _
 have WN:Below w2.heap.size w2 w3:=by rw[hw3];exact SY _ _ _
 have UC:=(SY w3 (.cells (madeCells #[I 0,I 0] (n*2)) 190) (.cells #[I n,zu l,.pointer (some ⟨Y.heap.size+1,0,none⟩),.pointer (some ⟨w2.heap.size+1,0,none⟩),.slice (some (J w3.heap.size 0)) n n,.pointer none,.pointer none,.pointer none,.pointer none,.pointer none,.pointer none,.pointer none,.pointer none,.pointer none,.pointer none,.pointer none,.pointer none,.pointer none,.pointer none,.pointer none,.pointer none,I 0,I 0,I 0,.slice none 0 0,.nilFunc,zu 0,.slice none 0 0,.bool false] 111)).drew;have Zn:Below w.heap.size w Y:=((Below.refl _ _).alloc (zr _) _).trans (hb1.mono (by simp));have Zo:=BH w3 (.cells (madeCells #[I 0,I 0] (n*2)) 190) (.cells #[I n,zu l,.pointer (some ⟨Y.heap.size+1,0,none⟩),.pointer (some ⟨w2.heap.size+1,0,none⟩),.slice (some (J w3.heap.size 0)) n n,.pointer none,.pointer none,.pointer none,.pointer none,.pointer none,.pointer none,.pointer none,.pointer none,.pointer none,.pointer none,.pointer none,.pointer none,.pointer none,.pointer none,.pointer none,.pointer none,I 0,I 0,I 0,.slice none 0 0,.nilFunc,zu 0,.slice none 0 0,.bool false] 111);have Zp:=heap_alloc2_new w3 (.cells (madeCells #[I 0,I 0] (n*2)) 190) (.cells #[I n,zu l,.pointer (some ⟨Y.heap.size+1,0,none⟩),.pointer (some ⟨w2.heap.size+1,0,none⟩),.slice (some (J w3.heap.size 0)) n n,.pointer none,.pointer none,.pointer none,.pointer none,.pointer none,.pointer none,.pointer none,.pointer none,.pointer none,.pointer none,.pointer none,.pointer none,.pointer none,.pointer none,.pointer none,.pointer none,I 0,I 0,I 0,.slice none 0 0,.nilFunc,zu 0,.slice none 0 0,.bool false] 111);refine⟨book0 (w3.heap.size+1) (Y.heap.size+1) Y.heap.size (w2.heap.size+1) w2.heap.size w3.heap.size,rfl,?_,?_⟩
 . refine Pe HN.out (by omega) Zp ?_ ?_ ?_ ?_ Zo
   . exact (UC.block _ (by omega)).trans ((WN.block _ (by omega)).trans Yp)
   . exact (UC.block _ (by omega)).trans ((WN.block _ (by omega)).trans Yo)
   . exact (UC.block _ (by omega)).trans Yr
   . exact (UC.block _ (by omega)).trans Yq
 . have hall:=((Zn.trans (b12.mono (by omega))).trans (WN.mono (by omega))).trans (UC.mono (by omega))
   refine⟨hall.os,hall.tape,hall.output,hall.size,fun b hb _=>hall.block b hb,fun b hb=>?_,fun b hb e=>by cases e⟩;show (if b=w3.heap.size+1 then some bU.df else _)=none;rw[aR (by omega),aR (by omega),aR (by omega),aR (by omega),aR (by omega),aR (by omega)]
theorem Grow.toBelow {L':dE} {w E:World} (g:Grow (fun _=>none) w L' E):Below w.heap.size w E:=⟨g.os,g.tape,g.output,g.size,fun b hb=>g.block b hb rfl⟩
theorem bX {P:Program} {w:World} {ops:Array Oper} {rest:List Oper} {o:Oper} {a:Act} {Q:Exit->Act->World->Prop} (hg:o.guard=none) (x ix:Operand) (ty:TypeId) (hop:o.op=.index ty x ix) {v:Value} (aX:(Instr.index ty (a.eval x) (a.eval ix)).run P w=.ok v w)
 (hK:wpList P ops Q rest (a.put o.dst v) w):wpList P ops Q (o::rest) a w:=by
 refine wpList_plain hg fun K' hK'=>?_
 unfold Oper.wp;simp[execOp,hop,aX,Result.andThen];exact hK' _ _ hK
theorem oz {ops:Array Oper} {rest:List Oper} {o:Oper} {a:Act} {Q:Exit->Act->World->Prop} (w:World) (hgd:o.guard=none) (s x:Operand)
 (ho:o.op=.call {callee:=.builtin .append,args:=#[s,x],argTypes:=#[36,36]})
 (w0:World) (hb:Below w0.heap.size w0 w) (av:Option Addr) (m cap:Nat) (xs:List Value) (hs:a.eval s=.slice av m cap) (aU:w.ownsRow w0.heap.size 3 1 (.slice av m cap) m xs) (hm:m<4000000)
 (t0:Int) (hx:a.eval x=.slice (some (J w.heap.size 0)) 1 1)
 (h:∀ Ih cap' E,E.ownsRow w0.heap.size 3 1 (.slice Ih (m+1) cap') (m+1) (xs++[I t0])->Below w0.heap.size w0 E->wpList Tryz.prog ops Q rest (a.put o.dst (.slice Ih (m+1) cap')) E):
 wpList Tryz.prog ops Q (o::rest) a (w.alloc (.cells #[I t0] 3)):=by
 obtain⟨ii,hii,hz0,hz1,hz2⟩:=info_parts CQ;have hw:=hb.size;have hown':(w.alloc (.cells #[I t0] 3)).ownsRow w0.heap.size 3 1 (.slice av m cap) m xs:=oC aU fun g hg=>Below.heap_alloc _ _ _ (aU.lt g hg).2
 refine Ow.eu _ hgd s x 36 ho w0.heap.size 3 ii _ 1 8 Tryz.underlying36 hii hz0 hz1 hz2 rfl (by decide) (.slice av m cap) m xs hs hown' (J w.heap.size 0) 1 1 (by omega) [I t0] hx rfl (fun j u hu=>Ow.iw w [I t0] _ _ rfl j u hu) (by intro u hu;simp at hu;subst hu;rfl) (by unfold maxLen;omega) (by omega) (by simp;omega) ?_;intro v' E q1 q2 q3;obtain⟨Ih,cap',rfl,_⟩:=Ow.bN q1;exact h Ih cap' E q1 ((hb.alloc hw _).grown q2 (by simp;omega) (fun g hg=>(aU.lt g hg).1))
def dz (D:St) (k:Nat):List Nat:=(List.range k).filter fun s=>(D.aj.getD s none).isSome
theorem DZ (D:St) (k:Nat):dz D (k+1)=dz D k++(if (D.aj.getD k none).isSome then [k] else []):=by
 unfold dz;rw[List.range_succ,List.filter_append]
 congr 1
 simp only[List.filter_cons,List.filter_nil]
theorem uR (D:St) (k:Nat):(dz D k).length<=k:=by
 unfold dz;have:=List.length_filter_le (fun s=>(D.aj.getD s none).isSome) (List.range k)
 simpa using this
theorem vN {A:au} {D:St} {w:World} (hR:aC A D w):
 zk 13 #[R A.H 0] w fun e E=>∃ av cap,e=.returned (.slice av D.live.length cap)∧E.ownsRow w.heap.size 3 1 (.slice av D.live.length cap) D.live.length (D.live.map i64)∧Below w.heap.size w E:=by
 have hE:∀ k:Nat,k<8->w.cell? (J A.H (5+k))=some (A.tp D k):=fun k Z=>hR.df (5+k) (dI A D Z)
 have e0:=hE 0 (by omega);have e1:=hE 1 (by omega);have e2:=hE 2 (by omega);have e3:=hE 3 (by omega);have e4:=hE 4 (by omega);have e5:=hE 5 (by omega);have e6:=hE 6 (by omega);have e7:=hE 7 (by omega);have hls:D.live=dz D 8:=rfl;rw[hls];obtain⟨tv,Kl⟩:∃ tv:Nat->Option Addr,∀ k,A.tp D k=.pointer (tv k)∧((tv k).isSome=(D.aj.getD k none).isSome):=by
  refine⟨fun k=>if (D.aj.getD k none).isSome=true then some (J (A.bt k) 0) else none,fun k=>?_⟩;unfold au.tp;dsimp only;generalize D.aj.getD k none=ot
  cases ot<;>exact⟨rfl,rfl⟩
 rw[(Kl 0).1] at e0;rw[(Kl 1).1] at e1;rw[(Kl 2).1] at e2;rw[(Kl 3).1] at e3;rw[(Kl 4).1] at e4;rw[(Kl 5).1] at e5;rw[(Kl 6).1] at e6;rw[(Kl 7).1] at e7;have Zq:=zH (fun k=>(Kl k).2);clear hE hR hls Kl;go_enter Tryz.func13,Tryz.ntmps13;go_wp2
 go_loopw [3,10] (fun l i wr=>∃ k:Nat,k<=8∧i=I k∧Below w.heap.size w wr∧∃ av cap,l=.slice av (dz D k).length cap∧wr.ownsRow w.heap.size 3 1 l (dz D k).length ((dz D k).map i64)) (fun _ i _=>8 - (intOf i).toNat)
 case atStart=>exact⟨0,by omega,rfl,Below.refl _ _,none,0,rfl,rfl,.inl ⟨rfl,rfl⟩⟩
 case round=>
  obtain⟨k,Z,rfl,hb,av,cap,rfl,aU⟩:=hrel;have hm0:=uR D k;have hsu:=DZ D k;generalize hll:(dz D k).length=m at*;generalize hxs:(dz D k).map i64=xs at*;have hT:=Zq.out k;have HS:=zH (zA hsu (zA hll (zA hxs Z)));clear hsu hll hxs
  by_cases hlt:k<8
  . have n1:IntKind.i64.wrap ((k:Int)+1)=(k:Int)+1:=by rw[jG];omega
    have hm1:m<4000000:=by omega
    clear hm0 Z
    match k,hlt with
    |0,_=>
     cases hv:tv 0 with
     |none=>
      rw[hv] at hT;have nE:(D.aj.getD 0 none).isSome=false:=hT.symm;rw[hv] at e0;have hnew:dz D (0+1)=dz D 0:=by rw[HS.out.1,nE];simp
      have HN:=zH hnew;have hix:∀ E,(Instr.index 104 (.agg #[.pointer none,.pointer (tv 1),.pointer (tv 2),.pointer (tv 3),.pointer (tv 4),.pointer (tv 5),.pointer (tv 6),.pointer (tv 7)]) (I ((0:Nat):Int))).run Tryz.prog E=.ok (.pointer none) E:=fun E=>by kernel_rfl
      have HO:=zH (zA aU hb);clear hT nE hnew aU hb;go_wp2_with (refine bX rfl (.tmp 9) (.tmp 10) 104 rfl (hix _) ?_)
      go_roundw
      case rel=>exact⟨0+1,by omega,rfl,HO.out.2,av,cap,by rw[HN.out,HS.out.2.1],by rw[HN.out,HS.out.2.1,HS.out.2.2.1];exact HO.out.1⟩
      case measure=>simp[intOf]
     |some ad=>
      rw[hv] at hT;have nE:(D.aj.getD 0 none).isSome=true:=hT.symm;rw[hv] at e0;have hnew:dz D (0+1)=dz D 0++[0]:=by rw[HS.out.1,nE];simp
      have HN:=zH hnew;have hix:∀ E,(Instr.index 104 (.agg #[.pointer (some ad),.pointer (tv 1),.pointer (tv 2),.pointer (tv 3),.pointer (tv 4),.pointer (tv 5),.pointer (tv 6),.pointer (tv 7)]) (I ((0:Nat):Int))).run Tryz.prog E=.ok (.pointer (some ad)) E:=fun E=>by kernel_rfl
      clear hT nE hnew;go_wp2_with (first|(refine bX rfl (.tmp 9) (.tmp 10) 104 rfl (hix _) ?_)|(refine oz _ rfl _ _ rfl w (by assumption) _ _ _ _ rfl (by assumption) (by omega) _ rfl ?_;intro mr gp wl ql pl))
      go_roundw
      case rel=>exact⟨0+1,by omega,rfl,pl,mr,gp,by rw[HN.out,jR,HS.out.2.1];rfl,by rw[HN.out,jR,HS.out.2.1,List.map_append,HS.out.2.2.1];exact ql⟩
      case measure=>simp[intOf]
    |1,_=>
     cases hv:tv 1 with
     |none=>
      rw[hv] at hT;have nE:(D.aj.getD 1 none).isSome=false:=hT.symm;rw[hv] at e1;have hnew:dz D (1+1)=dz D 1:=by rw[HS.out.1,nE];simp
      have HN:=zH hnew;have hix:∀ E,(Instr.index 104 (.agg #[.pointer (tv 0),.pointer none,.pointer (tv 2),.pointer (tv 3),.pointer (tv 4),.pointer (tv 5),.pointer (tv 6),.pointer (tv 7)]) (I ((1:Nat):Int))).run Tryz.prog E=.ok (.pointer none) E:=fun E=>by kernel_rfl
      have HO:=zH (zA aU hb);clear hT nE hnew aU hb;go_wp2_with (refine bX rfl (.tmp 9) (.tmp 10) 104 rfl (hix _) ?_)
      go_roundw
      case rel=>exact⟨1+1,by omega,rfl,HO.out.2,av,cap,by rw[HN.out,HS.out.2.1],by rw[HN.out,HS.out.2.1,HS.out.2.2.1];exact HO.out.1⟩
      case measure=>simp[intOf]
     |some ad=>
      rw[hv] at hT;have nE:(D.aj.getD 1 none).isSome=true:=hT.symm;rw[hv] at e1;have hnew:dz D (1+1)=dz D 1++[1]:=by rw[HS.out.1,nE];simp
      have HN:=zH hnew;have hix:∀ E,(Instr.index 104 (.agg #[.pointer (tv 0),.pointer (some ad),.pointer (tv 2),.pointer (tv 3),.pointer (tv 4),.pointer (tv 5),.pointer (tv 6),.pointer (tv 7)]) (I ((1:Nat):Int))).run Tryz.prog E=.ok (.pointer (some ad)) E:=fun E=>by kernel_rfl
      clear hT nE hnew;go_wp2_with (first|(refine bX rfl (.tmp 9) (.tmp 10) 104 rfl (hix _) ?_)|(refine oz _ rfl _ _ rfl w (by assumption) _ _ _ _ rfl (by assumption) (by omega) _ rfl ?_;intro mr gp wl ql pl))
      go_roundw
      case rel=>exact⟨1+1,by omega,rfl,pl,mr,gp,by rw[HN.out,jR,HS.out.2.1];rfl,by rw[HN.out,jR,HS.out.2.1,List.map_append,HS.out.2.2.1];exact ql⟩
      case measure=>simp[intOf]
    |2,_=>
     cases hv:tv 2 with
     |none=>
      rw[hv] at hT;have nE:(D.aj.getD 2 none).isSome=false:=hT.symm;rw[hv] at e2;have hnew:dz D (2+1)=dz D 2:=by rw[HS.out.1,nE];simp
      have HN:=zH hnew;have hix:∀ E,(Instr.index 104 (.agg #[.pointer (tv 0),.pointer (tv 1),.pointer none,.pointer (tv 3),.pointer (tv 4),.pointer (tv 5),.pointer (tv 6),.pointer (tv 7)]) (I ((2:Nat):Int))).run Tryz.prog E=.ok (.pointer none) E:=fun E=>by kernel_rfl
      have HO:=zH (zA aU hb);clear hT nE hnew aU hb;go_wp2_with (refine bX rfl (.tmp 9) (.tmp 10) 104 rfl (hix _) ?_)
      go_roundw
      case rel=>exact⟨2+1,by omega,rfl,HO.out.2,av,cap,by rw[HN.out,HS.out.2.1],by rw[HN.out,HS.out.2.1,HS.out.2.2.1];exact HO.out.1⟩
      case measure=>simp[intOf]
     |some ad=>
      rw[hv] at hT;have nE:(D.aj.getD 2 none).isSome=true:=hT.symm;rw[hv] at e2;have hnew:dz D (2+1)=dz D 2++[2]:=by rw[HS.out.1,nE];simp
      have HN:=zH hnew;have hix:∀ E,(Instr.index 104 (.agg #[.pointer (tv 0),.pointer (tv 1),.pointer (some ad),.pointer (tv 3),.pointer (tv 4),.pointer (tv 5),.pointer (tv 6),.pointer (tv 7)]) (I ((2:Nat):Int))).run Tryz.prog E=.ok (.pointer (some ad)) E:=fun E=>by kernel_rfl
      clear hT nE hnew;go_wp2_with (first|(refine bX rfl (.tmp 9) (.tmp 10) 104 rfl (hix _) ?_)|(refine oz _ rfl _ _ rfl w (by assumption) _ _ _ _ rfl (by assumption) (by omega) _ rfl ?_;intro mr gp wl ql pl))
      go_roundw
      case rel=>exact⟨2+1,by omega,rfl,pl,mr,gp,by rw[HN.out,jR,HS.out.2.1];rfl,by rw[HN.out,jR,HS.out.2.1,List.map_append,HS.out.2.2.1];exact ql⟩
      case measure=>simp[intOf]
    |3,_=>
     cases hv:tv 3 with
     |none=>
      rw[hv] at hT;have nE:(D.aj.getD 3 none).isSome=false:=hT.symm;rw[hv] at e3;have hnew:dz D (3+1)=dz D 3:=by rw[HS.out.1,nE];simp
      have HN:=zH hnew;have hix:∀ E,(Instr.index 104 (.agg #[.pointer (tv 0),.pointer (tv 1),.pointer (tv 2),.pointer none,.pointer (tv 4),.pointer (tv 5),.pointer (tv 6),.pointer (tv 7)]) (I ((3:Nat):Int))).run Tryz.prog E=.ok (.pointer none) E:=fun E=>by kernel_rfl
      have HO:=zH (zA aU hb);clear hT nE hnew aU hb;go_wp2_with (refine bX rfl (.tmp 9) (.tmp 10) 104 rfl (hix _) ?_)
      go_roundw
      case rel=>exact⟨3+1,by omega,rfl,HO.out.2,av,cap,by rw[HN.out,HS.out.2.1],by rw[HN.out,HS.out.2.1,HS.out.2.2.1];exact HO.out.1⟩
      case measure=>simp[intOf]
     |some ad=>
      rw[hv] at hT;have nE:(D.aj.getD 3 none).isSome=true:=hT.symm;rw[hv] at e3;have hnew:dz D (3+1)=dz D 3++[3]:=by rw[HS.out.1,nE];simp
      have HN:=zH hnew;have hix:∀ E,(Instr.index 104 (.agg #[.pointer (tv 0),.pointer (tv 1),.pointer (tv 2),.pointer (some ad),.pointer (tv 4),.pointer (tv 5),.pointer (tv 6),.pointer (tv 7)]) (I ((3:Nat):Int))).run Tryz.prog E=.ok (.pointer (some ad)) E:=fun E=>by kernel_rfl
      clear hT nE hnew;go_wp2_with (first|(refine bX rfl (.tmp 9) (.tmp 10) 104 rfl (hix _) ?_)|(refine oz _ rfl _ _ rfl w (by assumption) _ _ _ _ rfl (by assumption) (by omega) _ rfl ?_;intro mr gp wl ql pl))
      go_roundw
      case rel=>exact⟨3+1,by omega,rfl,pl,mr,gp,by rw[HN.out,jR,HS.out.2.1];rfl,by rw[HN.out,jR,HS.out.2.1,List.map_append,HS.out.2.2.1];exact ql⟩
      case measure=>simp[intOf]
    |4,_=>
     cases hv:tv 4 with
     |none=>
      rw[hv] at hT;have nE:(D.aj.getD 4 none).isSome=false:=hT.symm;rw[hv] at e4;have hnew:dz D (4+1)=dz D 4:=by rw[HS.out.1,nE];simp
      have HN:=zH hnew;have hix:∀ E,(Instr.index 104 (.agg #[.pointer (tv 0),.pointer (tv 1),.pointer (tv 2),.pointer (tv 3),.pointer none,.pointer (tv 5),.pointer (tv 6),.pointer (tv 7)]) (I ((4:Nat):Int))).run Tryz.prog E=.ok (.pointer none) E:=fun E=>by kernel_rfl
      have HO:=zH (zA aU hb);clear hT nE hnew aU hb;go_wp2_with (refine bX rfl (.tmp 9) (.tmp 10) 104 rfl (hix _) ?_)
      go_roundw
      case rel=>exact⟨4+1,by omega,rfl,HO.out.2,av,cap,by rw[HN.out,HS.out.2.1],by rw[HN.out,HS.out.2.1,HS.out.2.2.1];exact HO.out.1⟩
      case measure=>simp[intOf]
     |some ad=>
      rw[hv] at hT;have nE:(D.aj.getD 4 none).isSome=true:=hT.symm;rw[hv] at e4;have hnew:dz D (4+1)=dz D 4++[4]:=by rw[HS.out.1,nE];simp
      have HN:=zH hnew;have hix:∀ E,(Instr.index 104 (.agg #[.pointer (tv 0),.pointer (tv 1),.pointer (tv 2),.pointer (tv 3),.pointer (some ad),.pointer (tv 5),.pointer (tv 6),.pointer (tv 7)]) (I ((4:Nat):Int))).run Tryz.prog E=.ok (.pointer (some ad)) E:=fun E=>by kernel_rfl
      clear hT nE hnew;go_wp2_with (first|(refine bX rfl (.tmp 9) (.tmp 10) 104 rfl (hix _) ?_)|(refine oz _ rfl _ _ rfl w (by assumption) _ _ _ _ rfl (by assumption) (by omega) _ rfl ?_;intro mr gp wl ql pl))
      go_roundw
      case rel=>exact⟨4+1,by omega,rfl,pl,mr,gp,by rw[HN.out,jR,HS.out.2.1];rfl,by rw[HN.out,jR,HS.out.2.1,List.map_append,HS.out.2.2.1];exact ql⟩
      case measure=>simp[intOf]
    |5,_=>
     cases hv:tv 5 with
     |none=>
      rw[hv] at hT;have nE:(D.aj.getD 5 none).isSome=false:=hT.symm;rw[hv] at e5;have hnew:dz D (5+1)=dz D 5:=by rw[HS.out.1,nE];simp
      have HN:=zH hnew;have hix:∀ E,(Instr.index 104 (.agg #[.pointer (tv 0),.pointer (tv 1),.pointer (tv 2),.pointer (tv 3),.pointer (tv 4),.pointer none,.pointer (tv 6),.pointer (tv 7)]) (I ((5:Nat):Int))).run Tryz.prog E=.ok (.pointer none) E:=fun E=>by kernel_rfl
      have HO:=zH (zA aU hb);clear hT nE hnew aU hb;go_wp2_with (refine bX rfl (.tmp 9) (.tmp 10) 104 rfl (hix _) ?_)
      go_roundw
      case rel=>exact⟨5+1,by omega,rfl,HO.out.2,av,cap,by rw[HN.out,HS.out.2.1],by rw[HN.out,HS.out.2.1,HS.out.2.2.1];exact HO.out.1⟩
      case measure=>simp[intOf]
     |some ad=>
      rw[hv] at hT;have nE:(D.aj.getD 5 none).isSome=true:=hT.symm;rw[hv] at e5;have hnew:dz D (5+1)=dz D 5++[5]:=by rw[HS.out.1,nE];simp
      have HN:=zH hnew;have hix:∀ E,(Instr.index 104 (.agg #[.pointer (tv 0),.pointer (tv 1),.pointer (tv 2),.pointer (tv 3),.pointer (tv 4),.pointer (some ad),.pointer (tv 6),.pointer (tv 7)]) (I ((5:Nat):Int))).run Tryz.prog E=.ok (.pointer (some ad)) E:=fun E=>by kernel_rfl
      clear hT nE hnew;go_wp2_with (first|(refine bX rfl (.tmp 9) (.tmp 10) 104 rfl (hix _) ?_)|(refine oz _ rfl _ _ rfl w (by assumption) _ _ _ _ rfl (by assumption) (by omega) _ rfl ?_;intro mr gp wl ql pl))
      go_roundw
      case rel=>exact⟨5+1,by omega,rfl,pl,mr,gp,by rw[HN.out,jR,HS.out.2.1];rfl,by rw[HN.out,jR,HS.out.2.1,List.map_append,HS.out.2.2.1];exact ql⟩
      case measure=>simp[intOf]
    |6,_=>
     cases hv:tv 6 with
     |none=>
      rw[hv] at hT;have nE:(D.aj.getD 6 none).isSome=false:=hT.symm;rw[hv] at e6;have hnew:dz D (6+1)=dz D 6:=by rw[HS.out.1,nE];simp
      have HN:=zH hnew;have hix:∀ E,(Instr.index 104 (.agg #[.pointer (tv 0),.pointer (tv 1),.pointer (tv 2),.pointer (tv 3),.pointer (tv 4),.pointer (tv 5),.pointer none,.pointer (tv 7)]) (I ((6:Nat):Int))).run Tryz.prog E=.ok (.pointer none) E:=fun E=>by kernel_rfl
      have HO:=zH (zA aU hb);clear hT nE hnew aU hb;go_wp2_with (refine bX rfl (.tmp 9) (.tmp 10) 104 rfl (hix _) ?_)
      go_roundw
      case rel=>exact⟨6+1,by omega,rfl,HO.out.2,av,cap,by rw[HN.out,HS.out.2.1],by rw[HN.out,HS.out.2.1,HS.out.2.2.1];exact HO.out.1⟩
      case measure=>simp[intOf]
     |some ad=>
      rw[hv] at hT;have nE:(D.aj.getD 6 none).isSome=true:=hT.symm;rw[hv] at e6;have hnew:dz D (6+1)=dz D 6++[6]:=by rw[HS.out.1,nE];simp
      have HN:=zH hnew;have hix:∀ E,(Instr.index 104 (.agg #[.pointer (tv 0),.pointer (tv 1),.pointer (tv 2),.pointer (tv 3),.pointer (tv 4),.pointer (tv 5),.pointer (some ad),.pointer (tv 7)]) (I ((6:Nat):Int))).run Tryz.prog E=.ok (.pointer (some ad)) E:=fun E=>by kernel_rfl
      clear hT nE hnew;go_wp2_with (first|(refine bX rfl (.tmp 9) (.tmp 10) 104 rfl (hix _) ?_)|(refine oz _ rfl _ _ rfl w (by assumption) _ _ _ _ rfl (by assumption) (by omega) _ rfl ?_;intro mr gp wl ql pl))
      go_roundw
      case rel=>exact⟨6+1,by omega,rfl,pl,mr,gp,by rw[HN.out,jR,HS.out.2.1];rfl,by rw[HN.out,jR,HS.out.2.1,List.map_append,HS.out.2.2.1];exact ql⟩
      case measure=>simp[intOf]
    |7,_=>
     cases hv:tv 7 with
     |none=>
      rw[hv] at hT;have nE:(D.aj.getD 7 none).isSome=false:=hT.symm;rw[hv] at e7;have hnew:dz D (7+1)=dz D 7:=by rw[HS.out.1,nE];simp
      have HN:=zH hnew;have hix:∀ E,(Instr.index 104 (.agg #[.pointer (tv 0),.pointer (tv 1),.pointer (tv 2),.pointer (tv 3),.pointer (tv 4),.pointer (tv 5),.pointer (tv 6),.pointer none]) (I ((7:Nat):Int))).run Tryz.prog E=.ok (.pointer none) E:=fun E=>by kernel_rfl
      have HO:=zH (zA aU hb);clear hT nE hnew aU hb;go_wp2_with (refine bX rfl (.tmp 9) (.tmp 10) 104 rfl (hix _) ?_)
      go_roundw
      case rel=>exact⟨7+1,by omega,rfl,HO.out.2,av,cap,by rw[HN.out,HS.out.2.1],by rw[HN.out,HS.out.2.1,HS.out.2.2.1];exact HO.out.1⟩
      case measure=>simp[intOf]
     |some ad=>
      rw[hv] at hT;have nE:(D.aj.getD 7 none).isSome=true:=hT.symm;rw[hv] at e7;have hnew:dz D (7+1)=dz D 7++[7]:=by rw[HS.out.1,nE];simp
      have HN:=zH hnew;have hix:∀ E,(Instr.index 104 (.agg #[.pointer (tv 0),.pointer (tv 1),.pointer (tv 2),.pointer (tv 3),.pointer (tv 4),.pointer (tv 5),.pointer (tv 6),.pointer (some ad)]) (I ((7:Nat):Int))).run Tryz.prog E=.ok (.pointer (some ad)) E:=fun E=>by kernel_rfl
      clear hT nE hnew;go_wp2_with (first|(refine bX rfl (.tmp 9) (.tmp 10) 104 rfl (hix _) ?_)|(refine oz _ rfl _ _ rfl w (by assumption) _ _ _ _ rfl (by assumption) (by omega) _ rfl ?_;intro mr gp wl ql pl))
      go_roundw
      case rel=>exact⟨7+1,by omega,rfl,pl,mr,gp,by rw[HN.out,jR,HS.out.2.1];rfl,by rw[HN.out,jR,HS.out.2.1,List.map_append,HS.out.2.2.1];exact ql⟩
      case measure=>simp[intOf]
    |k+8,h=>omega
  . obtain rfl:k=8:=by omega
    clear hlt hT Z hm0;have HO:=zH (zA aU hb);clear aU hb;go_wp2;go_ret;rw[HS.out.2.1,HS.out.2.2.1];exact⟨av,cap,rfl,HO.out.1,HO.out.2⟩
end Go.Proofs.YthicolbbmjfkfaaGreat.Em
