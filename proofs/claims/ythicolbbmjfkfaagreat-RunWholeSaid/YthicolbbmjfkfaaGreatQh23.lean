import Derived.Test.YthicolbbmjfkfaaGreatQh20
import Derived.Test.YthicolbbmjfkfaaGreatQh21
import Derived.Test.YthicolbbmjfkfaaGreatQh22
import Derived.Defers
set_option linter.unusedVariables false
set_option linter.unusedSimpArgs false
set_option maxRecDepth 100000
set_option maxHeartbeats 1600000
namespace Go.Proofs.YthicolbbmjfkfaaGreat.Em
open Go.ChangeShapes Go.WideShapes Go.ChangeAt Go.RowKit En
theorem Grow.toBelow {L':cZ} {w G:World} (g:Grow (fun _=>none) w L' G):Below w.heap.size w G:=⟨g.os,g.tape,g.output,g.size,fun b Z=>g.block b Z rfl⟩
def toldOf (x:Option (St×List ic×Nat)):Option (List (Nat×Nat×Nat)×Nat):=x.map fun y=>(y.2.1.map fun r=>(r.e,r.value,r.over),y.2.2)
theorem G7:toldOf (runWhole 1000 (new 8 100) 0 3 [⟨2,5,0,7⟩])=some ([(0,0,0),(0,0,3)],0):=by decide +kernel
theorem Fa {x:Option (St×List ic×Nat)} {l:List (Nat×Nat×Nat)} {e:Nat} (h:toldOf x=some (l,e)):∃ bE rs,x=some (bE,rs,e)∧rs.map (fun r=>(r.e,r.value,r.over))=l:=by
 cases x with
 |none=>cases h
 |some y=>obtain⟨bE,rs,e'⟩:=y;simp only[toldOf,Option.map_some,Option.some.injEq,gZ] at h;exact⟨bE,rs,by rw[h.2],h.1⟩
theorem CP {L:cZ} {w:World} {b n size:Nat} {xs:List Value} {T:TypeId} (h:Fix L w b (.cells xs.toArray T)) (hl:xs.length=n*size) (hn:n<=1000000):dQ L w size (.slice (some (J b 0)) n n) xs:=by
 refine⟨_,n,n,rfl,hl,zr _,by unfold maxLen;omega,.inr ⟨b,0,rfl,h.1,eQ h.2,fun j hj=>?_⟩⟩;rw[Nat.zero_add];have hj':j<xs.length:=by omega
 rw[zx hj'];exact h.cell j (by simp[hj'])
theorem G8 {L:cZ} {w:World} {vo:Value} {cs:List Value} {rs:List ic} {a0 a1 a2 b0 b1 b2:Nat} (h1:Kc L w 5 vo cs) (h2:jg L w rs cs) (h3:rs.map (fun r=>(r.e,r.value,r.over))=[(a0,a1,a2),(b0,b1,b2)]):
 ∃ b off cap,vo=.slice (some (J b off)) 2 cap∧zT w b off a0∧zT w b (off+5+3) b2:=by
 match rs,h2,h3 with
 |[r0,r1],h2,h3=>
  simp only[List.map_cons,List.map_nil,List.cons.injEq,gZ,and_true] at h3;obtain⟨⟨rfl,rfl,rfl⟩,rfl,rfl,rfl⟩:=h3;obtain⟨v0,c0,rfl,_,v1,c1,rfl,_,rfl⟩:=h2;obtain⟨⟨a,n,cap,rfl,hl,_,_,h5⟩,_⟩:=h1;have hn:n=2:=by simp at hl;omega
  subst hn
  rcases h5 with h5|⟨b,off,rfl,_,_,hc⟩
  . omega
  . refine⟨b,off,cap,rfl,?_,?_⟩
    . exact hc 0 (by omega)
    . exact hc 8 (by omega)
theorem Kk (w:World):zk 16 #[] w fun e G=>e=.returned (.bool true)∧Below w.heap.size w G:=by
 have hN:=wX 8 100 (by omega) (by omega) (by omega) (by omega) w;rw[show ((8:Nat):Int)=8 from rfl,show ((100:Nat):Int)=100 from rfl] at hN;have HN:=U hN;obtain⟨bE,rs,aN,hrs⟩:=Fa G7;have hW:∀ A H,Live A (new 8 100) H->zk 8 #[R A.Y 0,I 0,I 3,.slice (some (J H.heap.size 0)) 1 1] (H.alloc (.cells #[I 2,I 5,I 0,I 7] 27)) (G6 A (H.alloc (.cells #[I 2,I 5,I 0,I 7] 27)) bE rs 0):=fun A H hL=>
  EZ (hL.alloc _) 0 (by omega) 3 [⟨2,5,0,7⟩] _ 1 1 (CP (xs:=[I 2,I 5,I 0,I 7]) (dO hL.rep.mem.fresh _ rfl) rfl (by omega)) (by omega) 1000 (by omega) bE rs 0 aN
 have HW:=U hW;have HB:Hid (∀ w,zk 51 #[I 1,I 2] w fun e G=>e=.returned (I 264000)∧w=G):=by
  intro w;have h:=xh 1 2 w;rw[show sZ 1 2=264000 by decide +kernel] at h;exact h
 clear hN hW aN;go_enter Tryz.func16,Tryz.ntmps16;go_wp2_with (first|(go_at_call 37;refine HN.out.mono ?_;rintro e H ⟨A,rfl,q1,q2⟩;have HW1:=U (HW.out A H q1);have H1:=U (zA q1 q2);clear q1 q2)|(go_at_call 8;refine HW1.out.mono ?_;rintro e w2 ⟨A2,vo,cs,rfl,p1,p2,p3,p4,p5⟩;obtain⟨rb,ro,rc,rfl,x0,x3⟩:=G8 p1 p2 hrs;have H2:=U p4;clear p1 p2 p3 p4 p5)|(go_at_call 51;refine (HB.out _).mono ?_;rintro e G ⟨rfl,rfl⟩));go_ret;exact⟨rfl,((H1.out.2.trans (Grow.alloc _ _ _)).trans H2.out).toBelow⟩
theorem Fb {A:au} {D:St} {w:World} (hL:Live A D w) (s:Nat) (hs:s<8) (t:bB) (ht:D.ag.getD s none=some t) (he:0<t.ax) (hc:D.calls.getD s none=none):
 zk 10 #[R A.Y 0,I s] w fun e G=>e=.returned (.agg #[.bool true,.bool false,.bool false,I t.id,I t.ak,I 2,zu t.aG,zu t.ax,I t.ops])∧Below w.heap.size w G:=by
 have hR:=hL.rep;have b1:(s:Int)<8:=by omega
 have b0:(0:Int)<=(s:Int):=by omega
 have ll:=U (gu s hs);have r1:=hR.alloc (.cells #[.bool false,.bool false,.bool false,I 0,I 0,I 0,zu 0,zu 0,I 0] 42);have H1:Hid (∀ G,Below (w.alloc (.cells #[.bool false,.bool false,.bool false,I 0,I 0,I 0,zu 0,zu 0,I 0] 42)).heap.size (w.alloc (.cells #[.bool false,.bool false,.bool false,I 0,I 0,I 0,zu 0,zu 0,I 0] 42)) G->zS G A.Y (5+s) (A.bt s) 0∧G.cell? (J A.Y (13+s))=some (.pointer none)∧zT G (A.bt s) 0 t.id∧zT G (A.bt s) 1 t.ak∧zV G (A.bt s) 3 t.aG∧zV G (A.bt s) 4 t.ax∧zT G (A.bt s) 5 t.ops):=by
  intro G Z;have r:=r1.below Z;have h5:=r.eH (5+s) (dV A D hs);rw[show A.tp D s=R (A.bt s) 0 by unfold au.tp;rw[ht]] at h5;have GY:=r.eH (13+s) (eF A D hs);rw[hL.idle s hs hc] at GY;exact⟨h5,GY,r.dZ ht 0 rfl,r.dZ ht 1 rfl,r.dZ ht 3 rfl,r.dZ ht 4 rfl,r.dZ ht 5 rfl⟩
 obtain⟨v5,v13,t0,t1,t3,t4,t5⟩:=H1.out _ (Below.refl _ _);obtain⟨JP,JQ,JR,JS,JU⟩:=o9 (x:=t.ax) (c:=0) (ci:=0) (by omega);have RS:decide ((0:Int)<(t.ax:Int))=true:=by simp<;>omega
 have RU:((0:Int)<(t.ax:Int))=True:=by simp<;>omega
 have RV:(0<t.ax)=True:=by simp<;>omega
 have RX:decide (0<t.ax)=true:=by simp<;>omega
 clear hL hR hs ht r1 he;go_enter Tryz.func10,Tryz.ntmps10;go_wp2_with (go_at_call 40;refine (ll.out _).mono ?_;rintro e G ⟨rfl,rfl⟩);have HZ0:Hid ((w.alloc (.cells #[.bool false,.bool false,.bool false,I 0,I 0,I 0,zu 0,zu 0,I 0] 42)).heap[w.heap.size]? =some (.cells #[.bool false,.bool false,.bool false,I 0,I 0,I 0,zu 0,zu 0,I 0] 42)∧Below w.heap.size w (w.alloc (.cells #[.bool false,.bool false,.bool false,I 0,I 0,I 0,zu 0,zu 0,I 0] 42))∧w.heap.size<(w.alloc (.cells #[.bool false,.bool false,.bool false,I 0,I 0,I 0,zu 0,zu 0,I 0] 42)).heap.size):=⟨heap_alloc_new w _,(Below.refl _ w).alloc (zr _) _,by simp⟩
 clear v5 v13 t0 t1 t3 t4 t5;generalize hw0:w.alloc _=w0 at*;obtain⟨v5,v13,t0,t1,t3,t4,t5⟩:=H1.out w0 (Below.refl _ _)
 go_quiet (fail)
 clear v5 v13 t0 t1 t3 t4 t5;generalize iG:w0.drewN _=w5;have hb5:Below w0.heap.size w0 w5:=by rw[<-iG];exact⟨rfl,rfl,rfl,zr _,fun _ _=>rfl⟩
 obtain⟨v5,v13,t0,t1,t3,t4,t5⟩:=H1.out w5 hb5;obtain⟨_,_,y0,y1,y3,y4,y5⟩:=H1.out (w5.alloc (.cells #[.bool false,.bool false,.bool false,I 0,I 0,I 0,zu 0,zu 0,I 0] 42)) (hb5.alloc hb5.size _);go_wp2_with fail
 go_region
 generalize nR:World.drew _=w6;have F6:Fix (fun _=>none) w6 w5.heap.size (.cells #[.bool true,.bool false,.bool false,I t.id,I t.ak,I 1,zu t.aG,zu t.ax,I t.ops] 42):=⟨rfl,by rw[<-nR];exact heap_alloc_new w5 _⟩
 have hb6:Below w0.heap.size w0 w6:=by rw[<-nR];exact (hb5.alloc hb5.size _).drew
 have RY:w5.heap.size<w6.heap.size:=eQ F6.2;have Kh:=U (zA hb6 (zA F6 hb5.size));obtain⟨_,_,_,_,_,u4,_⟩:=H1.out w6 hb6;clear v5 v13 t0 t1 t3 t4 t5 y0 y1 y3 y4 y5;have s0:=F6.cell 0 (v:=.bool true) rfl;have s1:=F6.cell 1 (v:=.bool false) rfl;have s2:=F6.cell 2 (v:=.bool false) rfl;have s3:=F6.cell 3 (v:=I t.id) rfl;have s4:=F6.cell 4 (v:=I t.ak) rfl;have s5:=F6.cell 5 (v:=I 1) rfl;have s6:=F6.cell 6 (v:=zu t.aG) rfl;have s7:=F6.cell 7 (v:=zu t.ax) rfl;have s8:=F6.cell 8 (v:=I t.ops) rfl;have z5:=F6.frozen 5;have f7:Fix (fun _=>none) (w6.setCell (J w5.heap.size 5) (I 2)) w5.heap.size (.cells #[.bool true,.bool false,.bool false,I t.id,I t.ak,I 2,zu t.aG,zu t.ax,I t.ops] 42):=⟨rfl,by have h:=heap_setCell_same F6.2 5 (I 2);simpa using h⟩
 have EY:Below w0.heap.size w0 (w6.setCell (J w5.heap.size 5) (I 2)):=hb6.setCell (Kh.out.2.2) _;have uB:Below w0.heap.size w0 (w6.setCell (J w5.heap.size 5) (I 2)):=EY;have vR:=U (ik (uB.block w.heap.size HZ0.out.2.2 |>.trans HZ0.out.1));have hfin:=jE (uB.block w.heap.size HZ0.out.2.2 |>.trans HZ0.out.1) (.bool true) (.bool false) (.bool false) (I t.id) (I t.ak) (I 2) (zu t.aG) (zu t.ax) (I t.ops);have MJ:=U hfin;have FE:=U (Below.oU (HZ0.out.2.1.trans (uB.mono (Nat.le_of_lt HZ0.out.2.2))) (zr _) (.bool true) (.bool false) (.bool false) (I t.id) (I t.ak) (I 2) (zu t.aG) (zu t.ax) (I t.ops));clear hfin;clear uB F6 hb6 f7 EY nR;go_wp2_with (refine wpList_store_mid rfl 42 (.tmp 4) (.tmp 68) rfl w.heap.size 0 #[.bool true,.bool false,.bool false,I t.id,I t.ak,I 2,zu t.aG,zu t.ax,I t.ops] rfl rfl vR.out (by kernel_rfl) (by simp[Value.oneCell']) ?_;generalize hws:World.setCells _ _ _ _=ws);have dW:Below w.heap.size w ((w6.setCell (J w5.heap.size 5) (I 2)).setCells w.heap.size 0 [.bool true,.bool false,.bool false,I t.id,I t.ak,I 2,zu t.aG,zu t.ax,I t.ops]):=FE.out;have hfin:=MJ.out;rw[show (w6.setCell (J w5.heap.size 5) (I 2)).setCells w.heap.size 0 [.bool true,.bool false,.bool false,I t.id,I t.ak,I 2,zu t.aG,zu t.ax,I t.ops]=ws from hws] at dW hfin
 (try simp only[Exit.inBlock,Exit.then])
 refine bodyPost_ret (results_cell_row rfl _ _ w.heap.size 42 #[.bool true,.bool false,.bool false,I t.id,I t.ak,I 2,zu t.aG,zu t.ax,I t.ops] _ _ rfl hfin Tryz.underlying42 rfl (by kernel_rfl)) rfl ?_;exact⟨rfl,dW⟩
theorem CQ {A:au} {D:St} {w:World} (hL:Live A D w) (s:Nat) (hs:s<8):
 zk 10 #[R A.Y 0,I s] w fun e G=>e=.returned (.agg (oD (D.status s)))∧Below w.heap.size w G:=by
 unfold St.status
 cases ht:D.ag.getD s none with
 |none=>exact AX hL.rep s hs ht
 |some t=>
  by_cases he:0<t.ax
  . cases hc:D.calls.getD s none with
    |none=>
     have h:=Fb hL s hs t ht he hc;simp only[aV he];exact h
    |some c=>
     have h:=E8 hL s hs t ht he c hc;simp only[aV he];exact h
  . cases hc:D.calls.getD s none with
    |none=>
     have h:=EX hL s hs t ht (by omega) hc;simp only[aX he];exact h
    |some c=>
     have h:=E5 hL s hs t ht (by omega) c hc;simp only[aX he];exact h
structure R6 (b:Nat) (w0:World) (D:St) (w:World):Prop where
 ex:∃ A:au,A.Y=b∧Live A D w∧Grow (fun _=>none) w0 A.L w
theorem MM (n l:Nat) (h1:1<=n) (h2:n<=256) (h3:1<=l) (h4:l<=1099511627776) (w:World):
 zk 37 #[.agg #[I n,zu l]] w fun e G=>∃ b,e=.returned (.tuple #[R b 0,I 0])∧R6 b w (new n l) G:=by
 refine (wX n l h1 h2 h3 h4 w).mono ?_;rintro e G ⟨A,rfl,hL,g⟩;exact⟨A.Y,rfl,A,rfl,hL,g⟩
inductive Kept where
 |obj (k:Nat) (o:Obj)
 |row (size:Nat) (v:Value) (xs:List Value)
 |far (k:Nat) (o:Obj)
 |floor (n:Nat)
def Kept.holds (L:cZ) (w:World):Kept->Prop
 |.obj k o=>Fix L w k o
 |.row size v xs=>dQ L w size v xs
 |.far k o=>L k=some .tmp∧w.heap[k]? =some o
 |.floor n=>n<=w.heap.size
theorem Kept.grow {L L':cZ} {w G:World} (g:Grow L w L' G):∀ {k:Kept},k.holds L w->k.holds L' G
 |.obj _ _,h=>Fix.grow h g
 |.row _ _ _,h=>dQ.grow h g
 |.far _ _,h=>⟨(g.lab _ (eQ h.2)).trans h.1,(g.keep _ (eQ h.2) h.1).trans h.2⟩
 |.floor _,h=>eP h g.size
def kJ (L:cZ) (w:World):List Kept->Prop
 |[]=>True
 |k::ks=>k.holds L w∧kJ L w ks
theorem kJ.grow {L L':cZ} {w G:World} (g:Grow L w L' G):∀ {ks:List Kept},kJ L w ks->kJ L' G ks
 |[],_=>trivial
 |_::_,⟨h,t⟩=>⟨Kept.grow g h,kJ.grow g t⟩
structure Pp (b:Nat) (w0:World) (ks:List Kept) (D:St) (w:World):Prop where
 ex:∃ A:au,A.Y=b∧Live A D w∧Grow (fun _=>none) w0 A.L w∧kJ A.L w ks
theorem R6.kt {b:Nat} {w0 w:World} {D:St} (h:R6 b w0 D w):Pp b w0 [] D w:=let ⟨A,e,l,g⟩:=h.ex;⟨A,e,l,g,trivial⟩
end Go.Proofs.YthicolbbmjfkfaaGreat.Em
namespace Go.Proofs.YthicolbbmjfkfaaGreat.Em.Cw
open En
structure LK (N l:Nat):Prop where
 lo:1<=l % 131072
 hi:l % 131072<=N
 u:l<18446744073709551616
def LZ (N l:Nat):Prop:=l=0∨LK N l
def Wd (w:Nat):Prop:=(rd w).1=2->(rd w).2<=2000
structure zq (N L i v:Nat):Prop where
 u:v<18446744073709551616
 ck:i=0->ai v<=L∧aT v<=2000
 lv:1<=i->i<=8->v<=L
 hd:9<=i->i<73->LZ N v
 nx:73<=i->i<73+N*3->i % 3=0->LZ N v
 Y:73<=i->i<73+N*3->i % 3≠0->Wd v
structure Pool (N:Nat) (D:St):Prop where
 fr:∀ i∈D.free,i<N∧(D.tags.getD i (0,false)).2=false
 nd:D.free.Nodup
 tg:∀ i,(D.tags.getD i (0,false)).1<=65535
 ls:D.listed=false->D.free=[]∧∀ i,(D.tags.getD i (0,false)).2=false
 w0:D.listed=false->D.iA=0∧D.tags.countP (·.2)=0
 sm:D.listed=true->D.free.length+D.iA+D.tags.countP (·.2)<=N
structure Sh (N L n:Nat) (D:St):Prop where
 sl:D.aC=N
 lm:D.limit=L
 n1:N<=256
 l1:L<=1099511627776
 nw:D.words.length=73+N*3+2001
 nt:D.tags.length=N
 nv:D.values.length=N
 t8:D.ag.length=8
 c8:D.calls.length=8
 md:D.aA<=2000
 wd:∀ i,zq N L i (D.word i)
 bK:Pool N D
 wn:D.iA<=n
 tl:D.aP.length<=n
 tp:∀ e∈D.aP,e.res.aB.length<=64
structure TX (N L n:Nat) (t:bB):Prop where
 i1:1<=t.id
 i2:t.id<=2000
 op:t.ops<=12
 bg:t.aG<=L
 en:t.ax<=L
 ce:∀ p∈t.cells,LZ N p.2.own∧LZ N p.2.old∧(p.2.there=true->LK N p.2.own)
 ky:∀ k∈t.keys,∃ x,t.cell k=some x
 kn:t.keys.length<=n
 rd:∀ r∈t.reads,r.1<64
 rn:t.reads.length<=n
 bd:∀ b∈t.aJ,b<=2000
 bn:t.aJ.length<=n
def gp (t:bB) (c:dF) (h:dw):Prop:=h.E<64∧match h.thn with
 |.get=>True
 |.scan k=>k=h.E∧c.op.hi<=63∧c.r.aB.length<=k
 |.change=>c.op.E=h.E∧t.cell c.op.E=none
 |.judge i _=>i<t.reads.length
def uM (N L:Nat) (t:bB) (c:dF):K->Prop
 |.fin r=>r.over=0∧r.aB.length<=64
 |.start h=>gp t c h
 |.visit h F=>gp t c h∧LK N F
 |.older h F=>gp t c h∧LK N F
 |.maker h F id=>gp t c h∧LK N F∧id<=2000
 |.ended h F mb=>gp t c h∧LK N F∧mb<=2000
 |.eY h F mb id=>gp t c h∧LK N F∧mb<=2000∧id<=2000
 |.seen h F mb=>gp t c h∧LK N F∧mb<=2000
 |.again e=>e<18446744073709551616∧Wd e∧∃ x,t.cell c.op.E=some x∧LK N x.own
 |.own F=>LK N F∧t.cell c.op.E=none∧c.op.E<64
 |.fG F w id=>LK N F∧t.cell c.op.E=none∧c.op.E<64∧id<=2000
 |.claim F w=>LK N F∧t.cell c.op.E=none∧c.op.E<64
 |.fresh F=>LZ N F∧t.cell c.op.E=none∧c.op.E<64
 |.next F head at_=>LZ N F∧LZ N head∧LK N at_∧t.cell c.op.E=none∧c.op.E<64
 |.free F head at_=>LZ N F∧LZ N head∧LK N at_∧t.cell c.op.E=none∧c.op.E<64
 |.dB F head at_ id=>LZ N F∧LZ N head∧LK N at_∧id<=2000∧t.cell c.op.E=none∧c.op.E<64
 |.dX x F head=>LK N F∧c.op.E<64∧(if x=true then (t.cell c.op.E).isSome=true else t.cell c.op.E=none∧LZ N head)
 |.dM x F head=>LK N F∧c.op.E<64∧(if x=true then (t.cell c.op.E).isSome=true else t.cell c.op.E=none∧LZ N head)
 |.push F head=>LK N F∧LZ N head∧t.cell c.op.E=none∧c.op.E<64
 |.dC F head=>LK N F∧LZ N head∧t.cell c.op.E=none∧c.op.E<64
 |.over F=>LK N F∧(t.cell c.op.E).isSome=true∧c.op.E<64
 |.fU F head=>LK N F∧LZ N head∧(t.cell c.op.E).isSome=true∧c.op.E<64
 |.dI F head=>LK N F∧LZ N head∧(t.cell c.op.E).isSome=true∧c.op.E<64
 |.draw=>True
 |.dJ w now=>w<18446744073709551616∧aT w<=2000∧now<L∧ai w<=L
 |.turn w now=>now<L
 |.dD=>True
 |.wait i=>i<t.aJ.length
 |.bO=>True
 |.abort _ _=>True
 |.turns l r=>(r.over=3∨r.over=4)∧r.aB=[]∧∀ x∈l,zq N L x.at_ x.new∧73<=x.at_∧x.at_<73+N*3
structure CX (N L:Nat) (t:bB) (c:dF):Prop where
 op:jK c.op=true
 ov:c.over=false
 ro:c.r.over=0
 k:∃ k,c.k=some k∧uM N L t c k
def QB (N:Nat):S->Prop
 |.now=>True
 |.live s=>s<8
 |.head E=>E<=63
 |.visit E bZ F=>E<=63∧LZ N bZ∧LK N F
 |.maker E bZ F id=>E<=63∧LZ N bZ∧LK N F∧id<=2000
 |.lM E bZ F b=>E<=63∧LZ N bZ∧LK N F
 |.on E F=>E<=63∧LK N F
 |.unlink E bZ F=>E<=63∧LZ N bZ∧LK N F
 |.cut E bZ F next=>E<=63∧LZ N bZ∧LK N F∧LZ N next
structure SX (N L n:Nat) (D:St):Prop where
 so:∀ x,D.sw=some x->QB N x
 lo:D.low<=L
 cu:∀ p∈D.cut,LK N p.1∧p.2<=D.seq
 cn:D.cut.length<=D.cuts
 cb:D.cuts<=n
structure WF (N L n:Nat) (D:St):Prop where
 sh:Sh N L n D
 sx:SX N L n D
 tx:∀ s t,D.ag.getD s none=some t->TX N L n t
 ti:∀ s t,D.ag.getD s none=some t->t.id<=D.aA
 cx:∀ s c,D.calls.getD s none=some c->∃ t,D.ag.getD s none=some t∧CX N L t c
theorem LK.aj {N l:Nat} (h:LK N l):aj l<N:=by have:=h.lo;have:=h.hi;unfold En.aj;omega
theorem LZ.of {N l:Nat} (h:LZ N l) (hn:l≠0):LK N l:=h.resolve_left hn
theorem LK.ne {N l:Nat} (h:LK N l):l≠0:=by rintro rfl;have:=h.lo;omega
theorem zq.zero (N L i:Nat):zq N L i 0:=by
 refine⟨by decide,fun _=>⟨by simp[ai],by simp[aT]⟩,fun _ _=>zz _,fun _ _=>.inl rfl,fun _ _ _=>.inl rfl,fun _ _ _=>?_⟩;unfold Wd;decide
theorem fK (l:List Nat) (i v j:Nat):(l.set i v).getD j 0=if j=i∧i<l.length then v else l.getD j 0:=by
 simp only[mM,List.getElem?_set]
 by_cases h:i=j
 . subst h
   by_cases hl:i<l.length
   . simp[hl]
   . simp[hl]
 . have h2:¬ j=i:=fun e=>h e.symm
   simp[h,h2]
theorem eZ (D:St) (i v j:Nat):(D.put i v).word j=if j=i∧i<D.words.length then v else D.word j:=fK _ _ _ _
theorem Sh.tick {N L n:Nat} {D:St} (h:Sh N L n D):Sh N L n D.tick:=⟨h.sl,h.lm,h.n1,h.l1,h.nw,h.nt,h.nv,h.t8,h.c8,h.md,h.wd,⟨h.bK.fr,h.bK.nd,h.bK.tg,h.bK.ls,h.bK.w0,h.bK.sm⟩,h.wn,h.tl,h.tp⟩
theorem Sh.put {N L n:Nat} {D:St} (h:Sh N L n D) {i v:Nat} (hv:zq N L i v):Sh N L n (D.put i v):=by
 refine⟨h.sl,h.lm,h.n1,h.l1,?_,h.nt,h.nv,h.t8,h.c8,h.md,fun j=>?_,⟨h.bK.fr,h.bK.nd,h.bK.tg,h.bK.ls,h.bK.w0,h.bK.sm⟩,h.wn,h.tl,h.tp⟩
 . show (D.words.set i v).length=_
   rw[pz];exact h.nw
 . rw[eZ]
   split
   . rename_i e;rw[e.1];exact hv
   . exact h.wd j
theorem Sh.bP {N L n:Nat} {D:St} (h:Sh N L n D) {i o v:Nat} (hv:zq N L i v):Sh N L n (D.bP i o v):=by
 unfold St.bP
 split
 . exact h.put hv
 . exact h.tick
theorem Sh.bq {N L n:Nat} {D:St} (h:Sh N L n D) (s:Nat) (t:bB):Sh N L n (D.bq s t):=
 ⟨h.sl,h.lm,h.n1,h.l1,h.nw,h.nt,h.nv,by show (D.ag.set s _).length=8;rw[pz];exact h.t8,h.c8,h.md,h.wd,⟨h.bK.fr,h.bK.nd,h.bK.tg,h.bK.ls,h.bK.w0,h.bK.sm⟩,h.wn,h.tl,h.tp⟩
theorem Sh.aF {N L n:Nat} {D:St} (h:Sh N L n D) (s:Nat) (c:dF):Sh N L n (D.aF s c):=
 ⟨h.sl,h.lm,h.n1,h.l1,h.nw,h.nt,h.nv,h.t8,by show (D.calls.set s _).length=8;rw[pz];exact h.c8,h.md,h.wd,⟨h.bK.fr,h.bK.nd,h.bK.tg,h.bK.ls,h.bK.w0,h.bK.sm⟩,h.wn,h.tl,h.tp⟩
theorem Sh.event {N L n:Nat} {D:St} (h:Sh N L n D) (e:Ev) (he:e.res.aB.length<=64:=by first|exact zz _|assumption):Sh N L (n+1) (D.event e):=
 ⟨h.sl, h.lm, h.n1, h.l1, h.nw, h.nt, h.nv, h.t8, h.c8, h.md, h.wd, ⟨h.bK.fr, h.bK.nd, h.bK.tg, h.bK.ls, h.bK.w0, h.bK.sm⟩, Nat.le_succ_of_le h.wn, by show (D.aP ++ [e]).length <= _; rw [jF]; have := h.tl; simp; omega, fun x hx => by
   have hx':x∈D.aP++[e]:=hx
   rw[List.mem_append] at hx'
   rcases hx' with hx'|hx'
   . exact h.tp x hx'
   . simp at hx';subst hx';exact he⟩
theorem Sh.vals {N L n:Nat} {D:St} (h:Sh N L n D) (i:Nat) (v:Nat×Nat):Sh N L n {D with values:=D.values.set i v}:=
 ⟨h.sl,h.lm,h.n1,h.l1,h.nw,h.nt,by show (D.values.set i v).length=N;rw[pz];exact h.nv,h.t8,h.c8,h.md,h.wd,⟨h.bK.fr,h.bK.nd,h.bK.tg,h.bK.ls,h.bK.w0,h.bK.sm⟩,h.wn,h.tl,h.tp⟩
theorem Sh.mono {N L n n':Nat} {D:St} (h:Sh N L n D) (hn:n<=n'):Sh N L n' D:=⟨h.sl,h.lm,h.n1,h.l1,h.nw,h.nt,h.nv,h.t8,h.c8,h.md,h.wd,h.bK,eP h.wn hn,eP h.tl hn,h.tp⟩
theorem TX.mono {N L n n':Nat} {t:bB} (h:TX N L n t) (hn:n<=n'):TX N L n' t:=⟨h.i1,h.i2,h.op,h.bg,h.en,h.ce,h.ky,eP h.kn hn,h.rd,eP h.rn hn,h.bd,eP h.bn hn⟩
theorem Sh.rE {N L n:Nat} {D:St} (h:Sh N L n D) (i:Nat) (v:Nat×Bool) (j:Nat):(D.tags.set i v).getD j (0,false)=if j=i∧i<N then v else D.tags.getD j (0,false):=by
 rw[<-h.nt];simp only[mM,List.getElem?_set]
 by_cases e:i=j
 . subst e
   by_cases hl:i<D.tags.length
   . simp[hl]
   . simp[hl]
 . have h2:¬ j=i:=fun e'=>e e'.symm
   simp[e,h2]
theorem Sh.list {N L n:Nat} {D:St} (h:Sh N L n D):Sh N L n D.list:=by
 unfold St.list
 split
 . exact h
 . rename_i hl
   have hl':D.listed=false:=by simpa using hl
   obtain⟨hf,ht⟩:=h.bK.ls hl';refine⟨h.sl,h.lm,h.n1,h.l1,h.nw,h.nt,h.nv,h.t8,h.c8,h.md,h.wd,⟨fun i hi=>?_,?_,h.bK.tg,fun e=>(by cases e),fun e=>(by cases e),fun _=>?_⟩,h.wn,h.tl,h.tp⟩
   . change i∈D.free++(List.range D.aC).reverse at hi
     rw[hf,h.sl] at hi;simp at hi;exact⟨hi,ht i⟩
   . show (D.free++(List.range D.aC).reverse).Nodup
     rw[hf,List.nil_append];exact List.pairwise_reverse.2 ((List.nodup_range (n:=D.aC)).imp fun h=>Ne.symm h)
   . obtain⟨e1,e2⟩:=h.bK.w0 hl'
     show (D.free++(List.range D.aC).reverse).length+D.iA+D.tags.countP (·.2)<=N;rw[e1,e2,hf,h.sl];simp
theorem Fe {N i tag:Nat} (hN:N<=256) (hi:i<N) (ht:tag<=65535):LK N (pJ i tag):=by
 refine⟨?_,?_,?_⟩<;>(unfold pJ;omega)
theorem lX (D:St):D.list.listed=true:=by
 unfold St.list
 split
 . assumption
 . rfl
theorem Sh.take {N L n:Nat} {D:St} (h:Sh N L n D):Sh N L n D.take.1∧∀ l,D.take.2=some l->LK N l:=by
 have hL:=h.list;unfold St.take;simp only
 split
 . exact⟨hL,fun l e=>by cases e⟩
 . rename_i i hi
   have hmem:i∈D.list.free:=List.mem_of_getLast? hi;have hfr:=hL.bK.fr i hmem;have hsplit:D.list.free=D.list.free.dropLast++[i]:=by
    have hne:D.list.free≠[]:=by intro e;rw[e] at hi;cases hi
    have h1:=List.dropLast_concat_getLast hne;have h2:D.list.free.getLast hne=i:=by
     rw[List.getLast?_eq_some_getLast hne] at hi;exact zj hi
    rw[h2] at h1;exact h1.symm
   have hnd:=hL.bK.nd;rw[hsplit] at hnd;rw[List.nodup_append] at hnd;refine⟨⟨hL.sl,hL.lm,hL.n1,hL.l1,hL.nw,?_,hL.nv,hL.t8,hL.c8,hL.md,hL.wd,⟨fun j hj=>?_,hnd.1,fun j=>?_,fun e=>?_,fun e=>?_,fun _=>?_⟩,hL.wn,hL.tl,hL.tp⟩,fun l e=>?_⟩
   . show (D.list.tags.set i _).length=N
     rw[pz];exact hL.nt
   . have hj':j∈D.list.free.dropLast:=hj
     have hjm:j∈D.list.free:=by rw[hsplit];exact List.mem_append_left _ hj'
     refine⟨(hL.bK.fr j hjm).1,?_⟩;show ((D.list.tags.set i _).getD j (0,false)).2=false;rw[hL.rE];have hne:¬ j=i:=fun e=>hnd.2.2 j hj' i (by simp) e
     rw[aX (fun e=>hne e.1)];exact (hL.bK.fr j hjm).2
   . show ((D.list.tags.set i _).getD j (0,false)).1<=65535
     rw[hL.rE]
     split
     . exact hL.bK.tg i
     . exact hL.bK.tg j
   . exfalso
     have e':D.list.listed=false:=e;rw[lX] at e'
     cases e'
   . exfalso
     have e':D.list.listed=false:=e;rw[lX] at e'
     cases e'
   . have hsm:=hL.bK.sm (lX D)
     have hl1:D.list.free.length=D.list.free.dropLast.length+1:=by rw[hsplit];simp
     have hil:i<D.list.tags.length:=by rw[hL.nt];exact hfr.1
     have hfl:D.list.tags[i].2=false:=by have:=hfr.2;rw[mM,zx hil] at this;exact this
     show D.list.free.dropLast.length+D.list.iA+(D.list.tags.set i ((D.list.tags.getD i (0,false)).1,true)).countP (·.2)<=N;rw[List.countP_set hil,hfl];simp;omega
   . obtain rfl:=zj e
     exact Fe h.n1 hfr.1 (hL.bK.tg i)
theorem qI {D:St} {F:Nat} (h:(D.tags.getD (aj F) (0,false)).2=true):∃ hl:aj F<D.tags.length,D.tags[aj F].2=true:=by
 rw[mM] at h
 by_cases hl:aj F<D.tags.length
 . rw[zx hl] at h;exact⟨hl,h⟩
 . rw[FC (by omega)] at h;cases h
theorem Sh.give {N L n:Nat} {D:St} (h:Sh N L n D) (F:Nat):Sh N L (n+1) (D.give F):=by
 unfold St.give
 split
 . rename_i hp
   have hp2:=hp;unfold St.jw at hp2;simp only[gQ,zd,beq_iff_eq] at hp2;obtain⟨⟨⟨h1,h2⟩,h3⟩,h4⟩:=hp2;have hlt:aj F<N:=by rw[h.sl] at h2;unfold aj;omega
   have hls:D.listed=true:=by
    cases e:D.listed with
    |true=>rfl
    |false=>have:=(h.bK.ls e).2 (aj F);rw[this] at h3;cases h3
   simp only
   split
   . refine⟨h.sl,h.lm,h.n1,h.l1,h.nw,by show (D.tags.set _ _).length=N;rw[pz];exact h.nt,h.nv,h.t8,h.c8,h.md,h.wd,⟨fun j hj=>?_,h.bK.nd,fun j=>?_,fun e=>(by rw[show D.listed=false from e] at hls;cases hls),fun e=>(by rw[show D.listed=false from e] at hls;cases hls),fun _=>?_⟩,Nat.succ_le_succ h.wn,Nat.le_succ_of_le h.tl,h.tp⟩
     . refine⟨(h.bK.fr j hj).1,?_⟩
       show ((D.tags.set _ _).getD j (0,false)).2=false;rw[h.rE]
       split
       . rfl
       . exact (h.bK.fr j hj).2
     . show ((D.tags.set _ _).getD j (0,false)).1<=65535
       rw[h.rE]
       split
       . exact h.bK.tg _
       . exact h.bK.tg j
     . obtain⟨hl,ht⟩:=qI h3
       have hsm:=h.bK.sm hls;have hpos:0<D.tags.countP (·.2):=List.countP_pos_iff.2 ⟨_,List.getElem_mem hl,ht⟩;show D.free.length+(D.iA+1)+(D.tags.set (aj F) _).countP (·.2)<=N;rw[List.countP_set hl,ht];simp;omega
   . rename_i Gf
     have U0:=h.bK.tg (aj F);refine⟨h.sl,h.lm,h.n1,h.l1,h.nw,by show (D.tags.set _ _).length=N;rw[pz];exact h.nt,h.nv,h.t8,h.c8,h.md,h.wd,⟨fun j hj=>?_,?_,fun j=>?_,fun e=>(by rw[show D.listed=false from e] at hls;cases hls),fun e=>(by rw[show D.listed=false from e] at hls;cases hls),fun _=>?_⟩,Nat.le_succ_of_le h.wn,Nat.le_succ_of_le h.tl,h.tp⟩
     . have hj':j∈D.free++[aj F]:=hj
       show j<N∧((D.tags.set _ _).getD j (0,false)).2=false;rw[h.rE];rw[List.mem_append] at hj'
       rcases hj' with hj'|hj'
       . refine⟨(h.bK.fr j hj').1,?_⟩
         split
         . rfl
         . exact (h.bK.fr j hj').2
       . simp at hj'
         subst hj';exact⟨hlt,by rw[aV ⟨rfl,hlt⟩]⟩
     . show (D.free++[aj F]).Nodup
       rw[List.nodup_append];refine⟨h.bK.nd,by simp,fun a ha b Z e=>?_⟩;simp at Z;subst Z;subst e;rw[(h.bK.fr _ ha).2] at h3
       cases h3
     . show ((D.tags.set _ _).getD j (0,false)).1<=65535
       rw[h.rE]
       split
       . show _+1<=65535
         omega
       . exact h.bK.tg j
     . obtain⟨hl,ht⟩:=qI h3
       have hsm:=h.bK.sm hls;have hpos:0<D.tags.countP (·.2):=List.countP_pos_iff.2 ⟨_,List.getElem_mem hl,ht⟩;show (D.free++[aj F]).length+D.iA+(D.tags.set (aj F) _).countP (·.2)<=N;rw[List.countP_set hl,ht];simp;omega
 . exact h.mono (nO _)
theorem kX:∀ (N:Nat) (l:List Nat),l.Nodup->(∀ i∈l,i<N)->l.length<=N
 |0,l,_,h=>by
  cases l with
  |nil=>simp
  |cons a l=>exact absurd (h a lJ) (by omega)
 |N+1,l,hn,h=>by
  by_cases hm:N∈l
  . have h1 := kX N (l.erase N) (hn.erase N) (fun i hi => by
      have h2:=(List.Nodup.mem_erase_iff hn).1 hi
      have h3:=h i h2.2
      omega)
    rw[List.length_erase_of_mem hm] at h1;omega
  . have := kX N l hn (fun i hi => by
      have:=h i hi
      have hne:i≠N:=by rintro rfl;exact hm hi
      omega)
    omega
theorem Pool.len {N:Nat} {D:St} (h:Pool N D):D.free.length<=N:=kX N _ h.nd (fun i hi=>(h.fr i hi).1)
theorem aM {α:Type} (l:List (Option α)) (s:Nat) (x:Option α) (q:Nat) (hs:s<l.length):(l.set s x).getD q none=if q=s then x else l.getD q none:=by
 simp only[mM,List.getElem?_set]
 by_cases h:s=q
 . subst h;simp[hs]
 . have h2:¬ q=s:=fun e=>h e.symm
   simp[h,h2]
def Ff (D τ:St):Prop:=τ.sw=D.sw∧τ.low=D.low∧τ.cut=D.cut∧τ.cuts=D.cuts
structure Mid (N L n s d:Nat) (D τ:St) (t:bB) (c:dF):Prop where
 s8:s<8
 sh:Sh N L n τ
 tx:τ.ag.getD s none=some t
 ca:τ.calls.getD s none=some c
 t1:TX N L n t
 op:jK c.op=true
 ox:∀ q,q≠s->τ.ag.getD q none=D.ag.getD q none
 oc:∀ q,q≠s->τ.calls.getD q none=D.calls.getD q none
 ct:τ.count=D.count+d
 lk:τ.aL=D.aL
 sq:τ.seq=D.seq
 md:τ.aA=D.aA
 sp:Ff D τ
 oq:c.op=(D.c s).op∧c.seq=(D.c s).seq
 tq:t.id=(D.t s).id
section
variable {N L n s d:Nat} {D τ:St} {t:bB} {c:dF}
theorem Mid.et (m:Mid N L n s d D τ t c):τ.t s=t:=by unfold St.t;rw[m.tx];rfl
theorem Mid.ec (m:Mid N L n s d D τ t c):τ.c s=c:=by unfold St.c;rw[m.ca];rfl
theorem Mid.tick (m:Mid N L n s d D τ t c):Mid N L n s (d+1) D τ.tick t c:=⟨m.s8,m.sh.tick,m.tx,m.ca,m.t1,m.op,m.ox,m.oc,by show τ.count+1=_;have:=m.ct;omega,m.lk,m.sq,m.md,m.sp,m.oq,m.tq⟩
theorem Mid.put (m:Mid N L n s d D τ t c) {i v:Nat} (hv:zq N L i v):Mid N L n s (d+1) D (τ.put i v) t c:=⟨m.s8,m.sh.put hv,m.tx,m.ca,m.t1,m.op,m.ox,m.oc,by show τ.count+1=_;have:=m.ct;omega,m.lk,m.sq,m.md,m.sp,m.oq,m.tq⟩
theorem Mid.bP (m:Mid N L n s d D τ t c) {i o v:Nat} (hv:zq N L i v):Mid N L n s (d+1) D (τ.bP i o v) t c:=by
 unfold St.bP
 split
 . exact m.put hv
 . exact m.tick
theorem Mid.bq (m:Mid N L n s d D τ t c) {t2:bB} (h:TX N L n t2) (hq:t2.id=t.id:=by rfl):Mid N L n s d D (τ.bq s t2) t2 c:=by
 refine⟨m.s8,m.sh.bq s t2,?_,m.ca,h,m.op,fun q hq=>?_,m.oc,m.ct,m.lk,m.sq,m.md,m.sp,m.oq,hq.trans m.tq⟩
 . show (τ.ag.set s (some t2)).getD s none=_
   rw[aM _ _ _ _ (by rw[m.sh.t8];exact m.s8),aV rfl]
 . show (τ.ag.set s (some t2)).getD q none=_
   rw[aM _ _ _ _ (by rw[m.sh.t8];exact m.s8),aX hq,m.ox q hq]
theorem Mid.aF (m:Mid N L n s d D τ t c) (c2:dF) (h:c2.op=c.op∧c2.seq=c.seq):Mid N L n s d D (τ.aF s c2) t c2:=by
 refine⟨m.s8,m.sh.aF s c2,m.tx,?_,m.t1,by rw[h.1];exact m.op,m.ox,fun q hq=>?_,m.ct,m.lk,m.sq,m.md,m.sp,⟨h.1.trans m.oq.1,h.2.trans m.oq.2⟩,m.tq⟩
 . show (τ.calls.set s (some c2)).getD s none=_
   rw[aM _ _ _ _ (by rw[m.sh.c8];exact m.s8),aV rfl]
 . show (τ.calls.set s (some c2)).getD q none=_
   rw[aM _ _ _ _ (by rw[m.sh.c8];exact m.s8),aX hq,m.oc q hq]
theorem Mid.event (m:Mid N L n s d D τ t c) (e:Ev) (he:e.res.aB.length<=64:=by first|exact zz _|assumption):Mid N L (n+1) s d D (τ.event e) t c:=⟨m.s8,m.sh.event e he,m.tx,m.ca,m.t1.mono (nO _),m.op,m.ox,m.oc,m.ct,m.lk,m.sq,m.md,m.sp,m.oq,m.tq⟩
theorem Mid.vals (m:Mid N L n s d D τ t c) (i:Nat) (v:Nat×Nat):Mid N L n s d D {τ with values:=τ.values.set i v} t c:=⟨m.s8,m.sh.vals i v,m.tx,m.ca,m.t1,m.op,m.ox,m.oc,m.ct,m.lk,m.sq,m.md,m.sp,m.oq,m.tq⟩
theorem Mid.mono {n':Nat} (m:Mid N L n s d D τ t c) (h:n<=n'):Mid N L n' s d D τ t c:=⟨m.s8,m.sh.mono h,m.tx,m.ca,m.t1.mono h,m.op,m.ox,m.oc,m.ct,m.lk,m.sq,m.md,m.sp,m.oq,m.tq⟩
theorem Fg (D:St):D.list.ag=D.ag∧D.list.calls=D.calls∧D.list.count=D.count∧D.list.aL=D.aL∧D.list.seq=D.seq∧D.list.aA=D.aA∧D.list.aP=D.aP∧D.list.words=D.words∧D.list.iA=D.iA:=by
 unfold St.list;split<;>exact⟨rfl,rfl,rfl,rfl,rfl,rfl,rfl,rfl,rfl⟩
theorem rF (D:St):D.take.1.ag=D.ag∧D.take.1.calls=D.calls∧D.take.1.count=D.count∧D.take.1.aL=D.aL∧D.take.1.seq=D.seq∧D.take.1.aA=D.aA∧D.take.1.aP=D.aP∧D.take.1.words=D.words∧D.take.1.iA=D.iA:=by
 unfold St.take;simp only
 split<;>exact Fg D
theorem xq (D:St) (l:Nat):(D.give l).ag=D.ag∧(D.give l).calls=D.calls∧(D.give l).count=D.count∧(D.give l).aL=D.aL∧(D.give l).seq=D.seq∧(D.give l).aA=D.aA∧(D.give l).aP=D.aP∧(D.give l).words=D.words:=by
 unfold St.give
 split
 . simp only
   split<;>exact⟨rfl,rfl,rfl,rfl,rfl,rfl,rfl,rfl⟩
 . exact⟨rfl,rfl,rfl,rfl,rfl,rfl,rfl,rfl⟩
theorem Kl (D:St):Ff D D.list:=by unfold St.list;split<;>exact⟨rfl,rfl,rfl,rfl⟩
theorem Km (D:St):Ff D D.take.1:=by
 unfold St.take;simp only
 split<;>exact Kl D
theorem DY (D:St) (l:Nat):Ff D (D.give l):=by
 unfold St.give
 split
 . simp only
   split<;>exact⟨rfl,rfl,rfl,rfl⟩
 . exact⟨rfl,rfl,rfl,rfl⟩
theorem Mid.take (m:Mid N L n s d D τ t c):Mid N L n s d D τ.take.1 t c:=by
 obtain⟨e1,e2,e3,e4,e5,e6,-⟩:=rF τ;obtain⟨s1,s2,s3,s4⟩:=Km τ;exact⟨m.s8,m.sh.take.1,by rw[e1];exact m.tx,by rw[e2];exact m.ca,m.t1,m.op,fun q hq=>by rw[e1];exact m.ox q hq,fun q hq=>by rw[e2];exact m.oc q hq,by rw[e3];exact m.ct,by rw[e4];exact m.lk,by rw[e5];exact m.sq,by rw[e6];exact m.md,by have:=m.sp;unfold Ff at this ⊢;rw[s1,s2,s3,s4];exact this,m.oq,m.tq⟩
theorem Mid.give (m:Mid N L n s d D τ t c) (l:Nat):Mid N L (n+1) s d D (τ.give l) t c:=by
 obtain⟨e1,e2,e3,e4,e5,e6,-⟩:=xq τ l;obtain⟨s1,s2,s3,s4⟩:=DY τ l;exact⟨m.s8,m.sh.give l,by rw[e1];exact m.tx,by rw[e2];exact m.ca,m.t1.mono (nO _),m.op,fun q hq=>by rw[e1];exact m.ox q hq,fun q hq=>by rw[e2];exact m.oc q hq,by rw[e3];exact m.ct,by rw[e4];exact m.lk,by rw[e5];exact m.sq,by rw[e6];exact m.md,by have:=m.sp;unfold Ff at this ⊢;rw[s1,s2,s3,s4];exact this,m.oq,m.tq⟩
def Out (N L n s d:Nat) (D:St) (r:St×K):Prop:=∃ t c,Mid N L n s d D r.1 t c∧c.over=false∧c.r.over=0∧uM N L t c r.2
theorem Out.mono {n':Nat} {r:St×K} (h:Out N L n s d D r) (hn:n<=n'):Out N L n' s d D r:=by
 obtain⟨t,c,m,h⟩:=h;exact⟨t,c,m.mono hn,h⟩
theorem Kn (h:TX N L n t) (E F:Nat) (got:Bool) (V:E<64):TX N L (n+1) {t with reads:=t.reads++[(E,F,got)]}:=
 ⟨h.i1, h.i2, h.op, h.bg, h.en, h.ce, h.ky, Nat.le_succ_of_le h.kn, fun r hr => by
   have hr':r∈t.reads++[(E,F,got)]:=hr
   rw[List.mem_append] at hr'
   rcases hr' with hr'|hr'
   . exact h.rd r hr'
   . simp at hr';subst hr';exact V,by show (t.reads++_).length<=_;rw[jF];have:=h.rn;simp;omega,h.bd,Nat.le_succ_of_le h.bn⟩
theorem Mid.read (m:Mid N L n s d D τ t c) (E F:Nat) (got:Bool) (V:E<64):Mid N L (n+1) s d D (τ.read s E F got) {t with reads:=t.reads++[(E,F,got)]} c:=by
 unfold St.read;rw[m.et];exact (m.mono (nO _)).bq (Kn m.t1 E F got V)
theorem Mid.bind (m:Mid N L n s d D τ t c) (tq:Nat) (hto:tq<=2000):∃ t2,Mid N L (n+1) s d D (τ.bind s tq) t2 c∧t2.cells=t.cells∧t2.reads=t.reads∧t2.ax=t.ax:=by
 unfold St.bind;rw[m.et]
 split
 . exact⟨t,m.mono (nO _),rfl,rfl,rfl⟩
 . have h:=m.t1
   refine⟨{t with aJ:=t.aJ++[tq]},?_,rfl,rfl,rfl⟩
   have hT : TX N L (n + 1) { t with aJ := t.aJ ++ [tq] } := ⟨h.i1, h.i2, h.op, h.bg, h.en, h.ce, h.ky, Nat.le_succ_of_le h.kn, h.rd, Nat.le_succ_of_le h.rn, fun b Z => by
     have hb':b∈t.aJ++[tq]:=Z
     rw[List.mem_append] at hb'
     rcases hb' with hb'|hb'
     . exact h.bd b hb'
     . simp at hb';subst hb';exact hto,by show (t.aJ++_).length<=_;rw[jF];have:=h.bn;simp;omega⟩
   have m2:=(m.mono (nO n)).bq hT;refine⟨m.s8,(m.sh.bq s {t with aJ:=t.aJ++[tq]}).event _,m2.tx,m2.ca,hT,m2.op,m2.ox,m2.oc,m2.ct,m2.lk,m2.sq,m2.md,m2.sp,m2.oq,m2.tq⟩
theorem G9 {l:List (Nat×jr)} {E:Nat} {x:jr} (h:l.lookup E=some x):(E,x)∈l:=by
 induction l with
 |nil=>cases h
 |cons a l ih=>
  obtain⟨k,y⟩:=a;rw[List.lookup_cons] at h
  by_cases V:E=k
  . subst V
    simp at h;subst h;exact lJ
  . rw[beq_false_of_ne V] at h
    exact pq _ (ih h)
theorem TX.cell (h:TX N L n t) {E:Nat} {x:jr} (hx:t.cell E=some x):LZ N x.own∧LZ N x.old∧(x.there=true->LK N x.own):=h.ce _ (G9 hx)
theorem Mid.tell (m:Mid N L n s d D τ t c) (E v:Nat):Mid N L n s d D (τ.tell s E v) t {c with r:={c.r with aB:=c.r.aB++[(E,v)]}}:=by
 unfold St.tell;rw[m.ec];exact m.aF _ ⟨rfl,rfl⟩
theorem uN {E:Nat} (k:Nat):∀ (E:Nat) (τ:St) (c:dF),Mid N L n s d D τ t c->c.over=false->c.r.over=0->c.op.hi<=63->E<=64->c.r.aB.length<=E->Out N L n s d D (fA s k τ E):=by
 induction k with
 |zero=>
  intro E τ c m ho hr hh V hp;refine⟨t,c,m,ho,hr,?_⟩;show uM N L t c (.fin (τ.c s).r);rw[m.ec];exact⟨hr,eP hp V⟩
 |succ k ih=>
  intro E τ c m ho hr hh V hp;unfold fA;rw[m.ec,m.et]
  split
  . exact⟨t,c,m,ho,hr,hr,eP hp V⟩
  . rename_i hlt
    split
    . rename_i x hx
      cases hth:x.there with
      |true=>
       simp only[if_true];exact ih (E+1) _ _ (m.tell E (τ.valueOf x.own)) ho hr hh (by omega) (by simp;omega)
      |false=>
       simp only[Bool.false_eq_true,if_false];exact ih (E+1) _ c m ho hr hh (by omega) (by omega)
    . exact⟨t,c,m,ho,hr,by show E<64;omega,rfl,hh,hp⟩
theorem yH (t:bB):∀ (k i:Nat),i<=t.reads.length->t.need k i<=t.reads.length∧(k=t.reads.length - i->t.need k i<t.reads.length->t.need k i<t.reads.length)
 |0,i,h=>⟨h,fun _ h=>h⟩
 |k+1,i,h=>by
  refine⟨?_,fun _ h=>h⟩;unfold bB.need
  split
  . rename_i hh
    exact (yH t k (i+1) (by omega)).1
  . exact h
theorem Bb {i:Nat} (h:i<=t.aJ.length):uM N L t c (iK t i):=by
 unfold iK
 split
 . trivial
 . show i<t.aJ.length;omega
theorem Ha {α:Type} {l:List α} {i:Nat} {a:α} (h:i<l.length):l.getD i a∈l:=by
 rw[mM,zx h];exact List.getElem_mem _
theorem xu (h:TX N L n t) {i:Nat} (hi:i<=t.reads.length):uM N L t c (dm t i):=by
 unfold dm;simp only;have h1:=(yH t (t.reads.length - i) i hi).1
 split
 . exact Bb (zz _)
 . exact⟨h.rd _ (Ha (by omega)),by show t.need _ i<_;omega⟩
theorem uO (m:Mid N L n s d D τ t c) (ho:c.over=false) (hr:c.r.over=0) {x:Bool} {F head:Nat} (hl:LZ N F) (V:c.op.E<64) (hx:if x=true then (t.cell c.op.E).isSome=true else t.cell c.op.E=none∧LZ N head):Out N L n s d D (τ.slot s x F head):=by
 unfold St.slot
 by_cases h0:F=0
 . rw[aV h0]
   have m2:=m.take;have ht:=m.sh.take.2
   cases e:τ.take with
   |mk BO o=>
    rw[e] at m2 ht
    cases o with
    |none=>exact⟨t,c,m2,ho,hr,trivial⟩
    |some l=>
     refine⟨t,c,m2.vals _ _,ho,hr,ht l rfl,V,hx⟩
 . rw[aX h0]
   exact⟨t,c,m.vals _ _,ho,hr,hl.of h0,V,hx⟩
theorem xw (m:Mid N L n s d D τ t c) (ho:c.over=false) (hr:c.r.over=0) {F head at_:Nat} (hl:LZ N F) (hh:LZ N head) (ha:LZ N at_) (V:c.op.E<64) (hx:t.cell c.op.E=none):Out N L n s d D (τ.gT s F head at_):=by
 unfold St.gT
 split
 . exact uO m ho hr hl V (by simp only[Bool.false_eq_true,if_false];exact⟨hx,hh⟩)
 . rename_i h0
   exact⟨t,c,m,ho,hr,hl,hh,ha.of h0,hx,V⟩
theorem Bc (m:Mid N L n s d D τ t c) (ho:c.over=false) (hr:c.r.over=0) (F:Nat):Out N L (n+1) s d D (τ.lost F):=by
 unfold St.lost
 split
 . exact⟨t,c,m.give F,ho,hr,trivial⟩
 . exact⟨t,c,m.mono (nO _),ho,hr,trivial⟩
theorem mI {t t2:bB} {h:dw} (hh:gp t c h) (e1:t2.cells=t.cells) (e2:t2.reads=t.reads):gp t2 c h:=by
 refine⟨hh.1,?_⟩;have:=hh.2
 cases e:h.thn with
 |get=>trivial
 |scan k=>rw[e] at this;exact this
 |change=>rw[e] at this;exact⟨this.1,by unfold bB.cell;rw[e1];exact this.2⟩
 |judge i l=>rw[e] at this;show i<t2.reads.length;rw[e2];exact this
theorem tu (m:Mid N L n s d D τ t c) (ho:c.over=false) (hr:c.r.over=0) {h:dw} (hh:gp t c h) {F:Nat} (hl:LZ N F):Out N L (n+1) s d D (τ.thn s h F):=by
 obtain⟨E,at_,thn⟩:=h;obtain⟨V,h2⟩:=hh;unfold St.thn
 cases thn with
 |get=>
  simp only;have m2:=m.read E F (F !=0) V
  split
  . exact⟨_,c,m2,ho,hr,rfl,zz _⟩
  . exact⟨_,c,m2,ho,hr,rfl,zz _⟩
 |scan k=>
  obtain⟨rfl,hhi,hp⟩:=h2;simp only at V hp hhi ⊢;have m2:=m.read k F false V;unfold St.scan
  by_cases h0:F=0
  . rw[aV h0]
    exact uN (E:=0) _ (k+1) _ c m2 ho hr hhi (by omega) (by omega)
  . rw[aX h0]
    exact uN (E:=0) _ (k+1) _ _ (m2.tell k ((τ.read s k F false).valueOf F)) ho hr hhi (by omega) (by simp;omega)
 |change=>
  obtain⟨hkk,hx⟩:=h2;simp only at V hkk ⊢;rw[m.ec];have hk2:c.op.E<64:=by omega
  split
  . exact⟨_,c,m.read _ F false hk2,ho,hr,rfl,zz _⟩
  split
  . exact⟨_,c,m.read _ F false hk2,ho,hr,rfl,zz _⟩
  split
  . exact⟨t,c,m.mono (nO _),ho,hr,.inl rfl,hx,hk2⟩
  . rename_i h0
    exact⟨t,c,m.mono (nO _),ho,hr,hl.of h0,hx,hk2⟩
 |judge i l=>
  simp only at h2 ⊢
  split
  . exact⟨t,c,m.mono (nO _),ho,hr,trivial⟩
  . refine⟨t,c,m.mono (nO _),ho,hr,?_⟩
    show uM N L t c (dm (τ.t s) (i+1));rw[m.et];exact xu m.t1 h2
theorem xx (m:Mid N L n s d D τ t c) (ho:c.over=false) (hr:c.r.over=0) {h:dw} (hh:gp t c h) {F:Nat} (hl:LZ N F):Out N L (n+1) s d D (τ.visit s h F):=by
 unfold St.visit
 split
 . exact tu m ho hr hh (.inl rfl)
 . rename_i h0
   exact⟨t,c,m.mono (nO _),ho,hr,hh,hl.of h0⟩
theorem Bd (m:Mid N L n s d D τ t c) (ho:c.over=false) (hr:c.r.over=0) {h:dw} (hh:gp t c h) {F mb:Nat} (hl:LK N F) (hm:mb<=2000):Out N L (n+1) s d D (τ.seen s h F mb):=by
 unfold St.seen
 split
 . exact tu m ho hr hh (.inr hl)
 . exact⟨t,c,m.mono (nO _),ho,hr,hh,hl,hm⟩
end
section
variable {N L n s d:Nat} {D τ:St} {t:bB} {c:dF}
def jO (N L n s d:Nat) (D:St) (r:St×Option K):Prop:=match r.2 with
 |some k=>Out N L n s d D (r.1,k)
 |none=>∃ t c,Mid N L n s d D r.1 t c∧c.over=true∧c.waits=false∧((c.r.over=0∧c.r.aB.length<=64)∨((c.r.over=3∨c.r.over=4)∧c.r.aB=[]))
theorem Out.ran {r:St×K} (h:Out N L n s d D r):jO N L n s d D (r.1,some r.2):=h
theorem pO {w:Nat} (h:Wd w) (e:(rd w).1=2):(rd w).2<=2000:=h e
theorem Sh.slot (h:Sh N L n τ) {l:Nat} (hl:LK N l):Wd (τ.word (af l 0))∧Wd (τ.word (af l 1))∧LZ N (τ.word (af l 2)):=by
 have:=hl.aj;refine⟨(h.wd _).Y ?_ ?_ ?_,(h.wd _).Y ?_ ?_ ?_,(h.wd _).nx ?_ ?_ ?_⟩<;>(unfold af;omega)
theorem Sh.head (h:Sh N L n τ) {E:Nat} (V:E<64):LZ N (τ.word (9+E)):=(h.wd _).hd (by omega) (by omega)
theorem Ko {x:Nat} (h:x<=1099511627776):Wd x:=by
 unfold Wd rd tm;rw[aV h];intro e;cases e
theorem qJ:Wd ever:=by unfold Wd;decide
theorem Kq (h:TX N L n t):rd (mine t)=(2,t.id):=by
 have:=h.i1;have:=h.i2;unfold rd mine tm ever mO;rw[aX (by omega),aX (by omega),aV (by omega)];simp
theorem lY (h:TX N L n t):Wd (mine t):=by
 intro _;rw[Kq h];exact h.i2
theorem lZ (h:TX N L n t):mine t<18446744073709551616:=by have:=h.i2;unfold mine mO;omega
theorem gW {l w v:Nat} (hl:LK N l) (hw:w<2) (hv:v<18446744073709551616) (hd:Wd v):zq N L (af l w) v:=by
 have:=hl.aj;refine⟨hv,fun e=>?_,fun _ e=>?_,fun _ e=>?_,fun _ _ e=>?_,fun _ _ _=>hd⟩<;>(unfold af at e;omega)
theorem oV {l v:Nat} (hl:LK N l) (hv:LZ N v):zq N L (af l 2) v:=by
 have:=hl.aj;refine⟨?_,fun e=>?_,fun _ e=>?_,fun _ e=>?_,fun _ _ _=>hv,fun _ _ e=>?_⟩
 . rcases hv with rfl|h
   . decide
   . exact h.u
 all_goals (unfold af at e;omega)
theorem oW {E v:Nat} (V:E<64) (hv:LZ N v):zq N L (9+E) v:=by
 refine⟨?_,fun e=>?_,fun _ e=>?_,fun _ _=>hv,fun e _ _=>?_,fun e _ _=>?_⟩
 . rcases hv with rfl|h
   . decide
   . exact h.u
 all_goals omega
theorem mJ {id v:Nat} (hv:v<18446744073709551616):zq N L (73+N*3+id) v:=by
 refine⟨hv,fun e=>?_,fun _ e=>?_,fun _ e=>?_,fun _ e _=>?_,fun _ e _=>?_⟩<;>omega
theorem Sh.place (h:Sh N L n τ) (id:Nat):τ.place id=73+N*3+id:=by unfold St.place;rw[h.sl]
theorem DZ (s8:s<8) {v:Nat} (hv:v<=L) (hl:L<=1099511627776):zq N L (1+s) v:=by
 refine⟨by omega,fun e=>?_,fun _ _=>hv,fun e _=>?_,fun e _ _=>?_,fun e _ _=>?_⟩<;>omega
theorem uP {x id:Nat} (hx:x<=L) (hl:L<=1099511627776) (hid:id<=2000):zq N L 0 (aO x id):=by
 refine⟨by unfold aO;omega,fun _=>⟨by unfold ai aO;omega,by unfold aT aO;omega⟩,fun e _=>?_,fun e _=>?_,fun e _ _=>?_,fun e _ _=>?_⟩<;>omega
theorem oZ {x e:Nat} (hx:x<8) (he:e<=1099511627776):pack x e<18446744073709551616:=by unfold pack;omega
theorem Mid.bT (m:Mid N L n s d D τ t c) {w:Nat} (hw:ai w<=L):Mid N L n s (d+1) D (τ.bT w) t c:=by
 unfold St.bT;rw[m.sh.place];exact m.bP (mJ (oZ (by omega) (eP hw m.sh.l1)))
theorem o5 (h:TX N L n t) (E:Nat) (x:jr) (h1:LZ N x.own) (h2:LZ N x.old) (h3:x.there=true->LK N x.own):TX N L (n+1) {t with cells:=(E,x)::t.cells,keys:=t.keys++[E]}:=by
 refine⟨h.i1,h.i2,h.op,h.bg,h.en,fun p hp=>?_,fun k V=>?_,?_,h.rd,Nat.le_succ_of_le h.rn,h.bd,Nat.le_succ_of_le h.bn⟩
 . have hp':p∈(E,x)::t.cells:=hp
   rw[List.mem_cons] at hp'
   rcases hp' with rfl|hp'
   . exact⟨h1,h2,h3⟩
   . exact h.ce p hp'
 . have hk':k∈t.keys++[E]:=V
   show ∃ y,((E,x)::t.cells).lookup k=some y;rw[List.lookup_cons]
   by_cases e:k=E
   . subst e;exact⟨x,by simp⟩
   . rw[beq_false_of_ne e]
     rw[List.mem_append] at hk'
     rcases hk' with hk'|hk'
     . exact h.ky k hk'
     . simp at hk';exact absurd hk' e
 . show (t.keys++[E]).length<=_
   rw[jF];have:=h.kn;simp;omega
theorem mR (l:List (Nat×jr)) (E:Nat) (x:jr) (k:Nat):(upd l E x).lookup k=(l.lookup k).map (fun y=>if k=E then x else y):=by
 unfold upd
 induction l with
 |nil=>rfl
 |cons a l ih=>
  obtain⟨k1,y⟩:=a
  by_cases h1:k1=E
  . subst h1
    simp only[List.map_cons,if_true];rw[List.lookup_cons,List.lookup_cons]
    by_cases h2:k=k1
    . subst h2;simp
    . rw[beq_false_of_ne h2];simpa using ih
  . simp only[List.map_cons,aX h1]
    rw[List.lookup_cons,List.lookup_cons]
    by_cases h2:k=k1
    . subst h2;simp[h1]
    . rw[beq_false_of_ne h2];simpa using ih
theorem o6 (h:TX N L n t) (E:Nat) (x:jr) (h1:LZ N x.own) (h2:LZ N x.old) (h3:x.there=true->LK N x.own):TX N L n {t with cells:=upd t.cells E x}:=by
 refine⟨h.i1,h.i2,h.op,h.bg,h.en,fun p hp=>?_,fun k V=>?_,h.kn,h.rd,h.rn,h.bd,h.bn⟩
 . have hp':p∈upd t.cells E x:=hp
   unfold upd at hp';rw[List.mem_map] at hp';obtain⟨q,hq,rfl⟩:=hp'
   split
   . exact⟨h1,h2,h3⟩
   . exact h.ce q hq
 . obtain⟨y,hy⟩:=h.ky k V
   show ∃ y,(upd t.cells E x).lookup k=some y;rw[mR,show t.cells.lookup k=some y from hy];exact⟨_,rfl⟩
theorem yI (h:TX N L n t) (hl:L<=1099511627776) (D:St):∀ x∈dY D t,zq N L x.at_ x.new∧73<=x.at_∧x.at_<73+N*3:=by
 intro x hx;unfold dY at hx;rw[List.mem_flatMap] at hx;obtain⟨E,V,hx⟩:=hx;obtain⟨y,hy⟩:=h.ky E V;rw[hy] at hx;simp only[Option.getD_some] at hx;obtain⟨ho,hd,-⟩:=h.cell hy;have he:t.ax<18446744073709551616:=by have:=h.en;omega
 have hw:Wd t.ax:=Ko (eP h.en hl);have hin:∀ l w,LK N l->w<2->zq N L (af l w) t.ax∧73<=af l w∧af l w<73+N*3:=by
  intro l w hl hw2;have:=hl.aj;exact⟨gW hl hw2 he hw,by unfold af;omega,by unfold af;omega⟩
 rw[List.mem_append] at hx
 rcases hx with hx|hx
 . split at hx
   . rename_i h0
     rw[List.mem_cons] at hx
     rcases hx with rfl|hx
     . exact hin _ _ (ho.of h0) (by omega)
     . split at hx
       . cases hx
       . simp at hx;subst hx;exact hin _ _ (ho.of h0) (by omega)
   . cases hx
 . split at hx
   . rename_i h0
     simp at hx;subst hx;exact hin _ _ (hd.of h0) (by omega)
   . cases hx
theorem Be (h:TX N L n t) (D:St):∀ x∈eU D t,zq N L x.at_ x.new∧73<=x.at_∧x.at_<73+N*3:=by
 intro x hx;unfold eU at hx;rw[List.mem_flatMap] at hx;obtain⟨E,V,hx⟩:=hx;obtain⟨y,hy⟩:=h.ky E V;rw[hy] at hx;simp only[Option.getD_some] at hx;obtain⟨ho,hd,-⟩:=h.cell hy
 split at hx
 . rename_i h0
   simp at hx;subst hx;have:=(hd.of h0).aj;refine⟨gW (hd.of h0) (by omega) (by show ever<_;decide) qJ,?_,?_⟩
   . show 73<=af y.old 1;unfold af;omega
   . show af y.old 1<73+N*3;unfold af;omega
 . cases hx
theorem Kr (h:TX N L n t):TX N L n {t with over:=true}:=⟨h.i1,h.i2,h.op,h.bg,h.en,h.ce,h.ky,h.kn,h.rd,h.rn,h.bd,h.bn⟩
theorem Mid.bW (m:Mid N L n s d D τ t c) (e:Ev) (he:e.res.aB.length<=64:=by exact zz _):∃ t2,Mid N L (n+1) s d D (τ.bW s e) t2 c∧t2={t with over:=true}:=by
 unfold St.bW;rw[m.et]
 split
 . rename_i ho
   refine⟨t,m.mono (nO _),?_⟩
   cases t;simp at ho;simp[ho]
 . exact⟨_,(m.bq (Kr m.t1)).event e,rfl⟩
set_option maxHeartbeats 1600000 in
theorem yJ (m:Mid N L n s 0 D D t c) (ho:c.over=false) (hr:c.r.over=0) (hw:c.waits=false) {k:K} (V:uM N L t c k):∃ d,d<=1∧jO N L (n+2) s d D (D.run s k):=by
 have mt:=m.tick;have et:=m.et;have ec:=m.ec
 cases k with
 |fin r=>
  refine⟨0,by omega,t,_,(m.mono (by omega)).aF {D.c s with r:=r,over:=true} ⟨by rw[ec],by rw[ec]⟩,rfl,by rw[ec];exact hw,.inl V⟩
 |start h=>exact⟨1,by omega,(xx mt ho hr V (m.sh.head V.1)).mono (by omega)⟩
 |visit h F=>
  obtain⟨hh,hl⟩:=V;refine⟨1,by omega,t,c,mt.mono (by omega),ho,hr,?_⟩;show uM N L t c (D.tick.jb s h F _);unfold St.jb
  split
  . exact⟨hh,hl,zz _⟩
  split
  . exact⟨hh,hl⟩
  . rename_i h2
    exact⟨hh,hl,pO (m.sh.slot hl).1 (Classical.byContradiction fun e=>h2 (.inl e))⟩
 |older h F=>
  obtain⟨hh,hl⟩:=V;exact⟨1,by omega,(xx mt ho hr hh (m.sh.slot hl).2.2).mono (by omega)⟩
 |maker h F id=>
  obtain⟨hh,hl,hid⟩:=V;refine⟨1,by omega,?_⟩;simp only[St.run]
  split
  . exact⟨t,c,mt.mono (by omega),ho,hr,hh,hl⟩
  split
  . exact⟨t,c,mt.mono (by omega),ho,hr,hh,hl,hid⟩
  . exact⟨t,c,mt.mono (by omega),ho,hr,hh,hl,zz _⟩
 |ended h F mb=>
  obtain⟨hh,hl,hm⟩:=V;refine⟨1,by omega,?_⟩;simp only[St.run]
  split
  . exact⟨t,c,mt.mono (by omega),ho,hr,hh,hl⟩
  split
  . exact (Bd mt ho hr hh hl hm).mono (by omega)
  . rename_i h2
    exact⟨t,c,mt.mono (by omega),ho,hr,hh,hl,hm,pO (m.sh.slot hl).2.1 (Classical.byContradiction fun e=>h2 (.inl e))⟩
 |eY h F mb id=>
  obtain⟨hh,hl,hm,hid⟩:=V;refine⟨1,by omega,?_⟩;simp only[St.run]
  split
  . exact (Bd mt ho hr hh hl hm).mono (by omega)
  split
  . obtain⟨t2,m2,e1,e2,-⟩:=mt.bind id hid
    exact⟨t2,c,m2.mono (by omega),ho,hr,mI hh e1 e2,hl⟩
  . exact⟨t,c,mt.mono (by omega),ho,hr,hh,hl⟩
 |seen h F mb=>
  obtain⟨hh,hl,hm⟩:=V;refine⟨1,by omega,?_⟩;simp only[St.run]
  split
  . exact⟨t,c,mt.mono (by omega),ho,hr,hh⟩
  . split
    . obtain⟨t2,m2,e1,e2,-⟩:=mt.bind mb hm
      exact (tu m2 ho hr (mI hh e1 e2) (.inr hl)).mono (by omega)
    . exact (tu mt ho hr hh (.inr hl)).mono (by omega)
 |again en=>
  obtain⟨h1,h2,x,hx,hxo⟩:=V;refine⟨1,by omega,?_⟩;have ex:D.x s c.op.E=x:=by unfold St.x;rw[et,hx];rfl
  simp only[St.run,ec,ex];have m1:=m.put (gW (w:=1) hxo (by omega) h1 h2);have m2:=m1.bq (o6 m1.t1 c.op.E {x with there:=(c.op.kind !=4)} (m.t1.cell hx).1 (m.t1.cell hx).2.1 (fun _=>hxo));have e3:((D.put (af x.own 1) en).c s).op.kind=c.op.kind:=by rw[m1.ec]
  have e4:((D.put (af x.own 1) en).ed s c.op.E {x with there:=(c.op.kind !=4)})=((D.put (af x.own 1) en).bq s {t with cells:=upd t.cells c.op.E {x with there:=(c.op.kind !=4)}}):=by unfold St.ed;rw[m1.et]
  rw[e3,e4]
  split
  . exact⟨_,c,(m2.mono (by omega)).vals _ _,ho,hr,rfl,zz _⟩
  . exact⟨_,c,m2.mono (by omega),ho,hr,rfl,zz _⟩
 |own F=>
  obtain⟨hl,hx,hkk⟩:=V;refine⟨1,by omega,?_⟩;simp only[St.run]
  split
  . exact⟨t,c,mt.mono (by omega),ho,hr,hl,hx,hkk⟩
  split
  . rename_i h2
    exact⟨t,c,mt.mono (by omega),ho,hr,hl,hx,hkk,pO (m.sh.slot hl).2.1 h2⟩
  . exact⟨t,c,mt.mono (by omega),ho,hr,trivial⟩
 |fG F w id=>
  obtain⟨hl,hx,hkk,hid⟩:=V;refine⟨1,by omega,?_⟩;simp only[St.run]
  split
  . exact⟨t,c,mt.mono (by omega),ho,hr,trivial⟩
  . exact⟨t,c,mt.mono (by omega),ho,hr,hl,hx,hkk⟩
 |claim F w=>
  obtain⟨hl,hx,hkk⟩:=V;refine⟨1,by omega,?_⟩;have m1:=m.bP (o:=w) (gW (L:=L) (w:=1) hl (by omega) (lZ m.t1) (lY m.t1));simp only[St.run,et]
  split
  . exact⟨t,c,m1.mono (by omega),ho,hr,hl,hx,hkk⟩
  . have m2:=(m1.mono (nO n)).bq (o5 m1.t1 c.op.E ⟨0,F,false⟩ (.inl rfl) (.inr hl) (by simp))
    have e1:(D.bP (af F 1) w (mine t)).bF s ((D.bP (af F 1) w (mine t)).c s).op.E ⟨0,F,false⟩=(D.bP (af F 1) w (mine t)).bq s {t with cells:=(c.op.E,⟨0,F,false⟩)::t.cells,keys:=t.keys++[c.op.E]}:=by
     unfold St.bF;rw[m1.et,m1.ec]
    rw[e1,m2.ec]
    split
    . exact⟨_,c,m2.mono (by omega),ho,hr,rfl,zz _⟩
    . refine (uO (m2.mono (by omega)) ho hr (.inl rfl) hkk ?_).ran
      simp only[if_true];show (List.lookup c.op.E ((c.op.E,_)::t.cells)).isSome=true;rw[List.lookup_cons];simp
 |fresh F=>
  obtain⟨hl,hx,hkk⟩:=V;refine⟨1,by omega,?_⟩;simp only[St.run,ec];exact (xw (mt.mono (by omega)) ho hr hl (m.sh.head hkk) (m.sh.head hkk) hkk hx).ran
 |next F head at_=>
  obtain⟨hl,hh,ha,hx,hkk⟩:=V;refine⟨1,by omega,?_⟩;simp only[St.run];exact (xw (mt.mono (by omega)) ho hr hl hh (m.sh.slot ha).2.2 hkk hx).ran
 |free F head at_=>
  obtain⟨hl,hh,ha,hx,hkk⟩:=V;refine⟨1,by omega,?_⟩;simp only[St.run]
  split
  . exact⟨t,c,mt.mono (by omega),ho,hr,hl,hh,ha,hx,hkk⟩
  split
  . exact ((Bc mt ho hr F).mono (by omega)).ran
  . rename_i h2
    exact⟨t,c,mt.mono (by omega),ho,hr,hl,hh,ha,pO (m.sh.slot ha).1 (Classical.byContradiction fun e=>h2 e),hx,hkk⟩
 |dB F head at_ id=>
  obtain⟨hl,hh,ha,hid,hx,hkk⟩:=V;refine⟨1,by omega,?_⟩;simp only[St.run]
  split
  . exact⟨t,c,mt.mono (by omega),ho,hr,hl,hh,ha,hx,hkk⟩
  . exact ((Bc mt ho hr F).mono (by omega)).ran
 |dX x F head=>
  obtain⟨hl,hkk,hx⟩:=V;refine⟨1,by omega,?_⟩;simp only[St.run,et];exact⟨t,c,(m.put (gW hl (by omega) (lZ m.t1) (lY m.t1))).mono (by omega),ho,hr,hl,hkk,hx⟩
 |dM x F head=>
  obtain⟨hl,hkk,hx⟩:=V;refine⟨1,by omega,?_⟩;simp only[St.run];refine⟨t,c,(m.put (gW hl (by omega) (by decide) qJ)).mono (by omega),ho,hr,?_⟩
  cases x with
  |true=>exact⟨hl,hx,hkk⟩
  |false=>
   simp only[Bool.false_eq_true,if_false] at hx;exact⟨hl,hx.2,hx.1,hkk⟩
 |push F head=>
  obtain⟨hl,hh,hx,hkk⟩:=V;refine⟨1,by omega,t,c,(m.put (oV hl hh)).mono (by omega),ho,hr,hl,hh,hx,hkk⟩
 |dC F head=>
  obtain⟨hl,hh,hx,hkk⟩:=V;refine⟨1,by omega,?_⟩;have m1:=m.bP (o:=head) (oW (L:=L) hkk (.inr hl));simp only[St.run,ec]
  split
  . exact⟨t,c,m1.mono (by omega),ho,hr,.inr hl,hx,hkk⟩
  . have m2:=(m1.mono (nO n)).bq (o5 m1.t1 c.op.E ⟨F,0,true⟩ (.inr hl) (.inl rfl) (fun _=>hl))
    have e1:(D.bP (9+c.op.E) head F).bF s c.op.E ⟨F,0,true⟩=(D.bP (9+c.op.E) head F).bq s {t with cells:=(c.op.E,⟨F,0,true⟩)::t.cells,keys:=t.keys++[c.op.E]}:=by
     unfold St.bF;rw[m1.et]
    rw[e1];exact⟨_,c,m2.mono (by omega),ho,hr,rfl,zz _⟩
 |over F=>
  obtain⟨hl,hx,hkk⟩:=V;refine⟨1,by omega,t,c,mt.mono (by omega),ho,hr,?_⟩;rw[ec];exact⟨hl,m.sh.head hkk,hx,hkk⟩
 |fU F head=>
  obtain⟨hl,hh,hx,hkk⟩:=V;exact⟨1,by omega,t,c,(m.put (oV hl hh)).mono (by omega),ho,hr,hl,hh,hx,hkk⟩
 |dI F head=>
  obtain⟨hl,hh,hx,hkk⟩:=V;refine⟨1,by omega,?_⟩;have m1:=m.bP (o:=head) (oW (L:=L) hkk (.inr hl));simp only[St.run,ec]
  split
  . exact⟨t,c,m1.mono (by omega),ho,hr,hl,hx,hkk⟩
  . obtain⟨x,TH⟩:=qV.1 hx
    have ex:(D.bP (9+c.op.E) head F).x s c.op.E=x:=by unfold St.x;rw[m1.et,TH];rfl
    rw[ex];have m2:=m1.bq (o6 m1.t1 c.op.E {x with own:=F,there:=true} (.inr hl) (m.t1.cell TH).2.1 (fun _=>hl));have e4:((D.bP (9+c.op.E) head F).ed s c.op.E {x with own:=F,there:=true})=((D.bP (9+c.op.E) head F).bq s {t with cells:=upd t.cells c.op.E {x with own:=F,there:=true}}):=by unfold St.ed;rw[m1.et]
    rw[e4];exact⟨_,c,m2.mono (by omega),ho,hr,rfl,zz _⟩
 |draw=>
  refine⟨1,by omega,?_⟩;have hc:=(m.sh.wd 0).ck rfl;simp only[St.run]
  split
  . exact⟨t,c,mt.mono (by omega),ho,hr,trivial⟩
  . rename_i hlim
    have hlt:ai (D.word 0)<L:=by have:=m.sh.lm;have h2:¬ D.limit<=ai (D.word 0):=hlim;omega
    split
    . exact⟨t,c,mt.mono (by omega),ho,hr,hlt⟩
    . exact⟨t,c,mt.mono (by omega),ho,hr,(m.sh.wd 0).u,hc.2,hlt,hc.1⟩
 |dJ w now=>
  obtain⟨h1,h2,h3,h4⟩:=V;exact⟨1,by omega,t,c,(m.bT h4).mono (by omega),ho,hr,h3⟩
 |turn w now=>
  refine⟨1,by omega,?_⟩;have hn:now<L:=V;have m1:=m.bP (o:=w) (uP (N:=N) (show now+1<=L by omega) m.sh.l1 m.t1.i2);simp only[St.run,et]
  split
  . exact⟨t,c,m1.mono (by omega),ho,hr,trivial⟩
  . have h:=m1.t1
    rw[m1.et];have m2:=(m1.bq (t2:={t with ax:=now+1}) ⟨h.i1,h.i2,h.op,h.bg,by show now+1<=L;omega,h.ce,h.ky,h.kn,h.rd,h.rn,h.bd,h.bn⟩).event {kind:=3,t:=t.id,n:=now+1};exact⟨_,c,m2.mono (show n+1<=n+2 by omega),ho,hr,trivial⟩
 |dD=>
  refine⟨1,by omega,?_⟩;have he:ai (aO t.ax t.id)=t.ax:=by unfold ai aO;have:=m.t1.i2;omega
  have m1:=m.bT (w:=aO t.ax t.id) (by rw[he];exact m.t1.en);simp only[St.run,et];refine⟨t,c,m1.mono (by omega),ho,hr,?_⟩;rw[m1.et];exact xu m1.t1 (zz _)
 |wait i=>
  refine⟨1,by omega,?_⟩;have hi:i<t.aJ.length:=V;simp only[St.run]
  split
  . refine⟨t,c,mt.mono (by omega),ho,hr,?_⟩
    show uM N L t c (iK (D.tick.t s) (i+1));rw[mt.et];exact Bb hi
  split
  . exact⟨t,c,mt.mono (by omega),ho,hr,trivial⟩
  . rw[mt.ec]
    exact⟨t,_,(mt.mono (by omega)).aF {c with waits:=true} ⟨rfl,rfl⟩,ho,hr,hi⟩
 |bO=>
  refine⟨1,by omega,?_⟩;simp only[St.run,et];have m1:=m.put (i:=D.place t.id) (v:=pack 3 t.ax) (by rw[m.sh.place];exact mJ (oZ (by omega) (eP m.t1.en m.sh.l1)));obtain⟨t2,m2,rfl⟩:=m1.bW {kind:=5,t:=t.id};exact⟨_,c,m2.mono (by omega),ho,hr,by simp,rfl,yI m.t1 m.sh.l1 _⟩
 |abort e ay=>
  refine⟨1,by omega,?_⟩;simp only[St.run,et];have m1:=m.put (i:=D.place t.id) (v:=pack 4 t.ax) (by rw[m.sh.place];exact mJ (oZ (by omega) (eP m.t1.en m.sh.l1)));obtain⟨t2,m2,rfl⟩:=m1.bW {kind:=6,t:=t.id,res:={ay:=ay}};exact⟨_,c,m2.mono (by omega),ho,hr,by simp,rfl,Be m.t1 _⟩
 |turns l r=>
  obtain⟨h1,h2,h3⟩:=V
  cases l with
  |nil=>
   refine⟨1,by omega,?_⟩;have m1:=m.put (i:=1+s) (v:=0) (DZ m.s8 (zz _) m.sh.l1);exact⟨t,_,(m1.mono (by omega)).aF {(D.put (1+s) 0).c s with r:=r,over:=true} ⟨by rw[m1.ec],by rw[m1.ec]⟩,rfl,by rw[m1.ec];exact hw,.inr ⟨h1,h2⟩⟩
  |cons x l=>
   refine⟨1,by omega,?_⟩;have hx:=(h3 x lJ).1;simp only[St.run];refine⟨t,c,?_,ho,hr,h1,h2,fun y hy=>h3 y (pq _ hy)⟩
   split
   . exact (m.put hx).mono (by omega)
   . exact (m.bP hx).mono (by omega)
end
section
variable {N L n s d:Nat} {D τ:St} {t:bB} {c:dF}
theorem lF {l:Nat} (h:LK N l) (hs:D.aC=N):vl D l=true:=by
 unfold vl;rw[hs];simp only[gQ,zd];exact⟨⟨h.lo,h.hi⟩,h.u⟩
theorem oG {l:Nat} (h:LZ N l) (hs:D.aC=N):FL D l=true:=by
 unfold FL
 rcases h with rfl|h
 . rfl
 . rw[lF h hs];simp
theorem iX (h:Sh N L n D) (i:Nat):small D i=true:=by unfold small;simp only[zd];exact (h.wd i).u
theorem kY (h:Sh N L n D) (hn:n<999990):lq D=true:=by
 unfold lq;simp only[gQ,zd,List.all_eq_true];have h1:=h.bK.len;have h2:=h.n1;have h3:=h.wn;refine⟨⟨⟨by omega,fun i hi=>by rw[h.sl];exact (h.bK.fr i hi).1⟩,fun p hp=>?_⟩,by omega⟩;obtain⟨i,hi,rfl⟩:=List.mem_iff_getElem.1 hp;have:=h.bK.tg i;rw[mM,zx hi] at this;exact this
theorem xy (h:TX N L n t) (hs:D.aC=N):ry D t=true:=by
 unfold ry;rw[List.all_eq_true];intro k V;obtain⟨x,hx⟩:=h.ky k V;rw[hx];simp only[gQ];exact⟨oG (h.cell hx).1 hs,oG (h.cell hx).2.1 hs⟩
theorem xz (h:TX N L n t) (hs:D.aC=N):rz D t=true:=by
 unfold rz;rw[List.all_eq_true];intro p hp;have:=(h.ce p hp).2.2
 cases e:p.2.there with
 |false=>rfl
 |true=>rw[e] at this;simp[lF (this rfl) hs]
theorem mK (m:Mid N L n s d D τ t c) (hn:n<999990) {h:dw} (hh:gp t c h) {F:Nat} (hl:LZ N F):qF τ s h F=true:=by
 obtain⟨E,at_,thn⟩:=h;obtain⟨V,h2⟩:=hh;unfold qF;rw[m.et,m.ec];have hr:=m.t1.rn;rw[show decide (t.reads.length<1000000)=true by simp;omega,Bool.true_and]
 cases thn with
 |get=>exact oG hl m.sh.sl
 |scan k=>
  obtain⟨rfl,hhi,hp⟩:=h2;simp only at V hp;simp only[gQ,zd];exact⟨⟨⟨⟨⟨trivial,oG hl m.sh.sl⟩,by omega⟩,hhi⟩,xz m.t1 m.sh.sl⟩,by omega⟩
 |change=>simp only[zd];exact h2.1
 |judge i l=>simp only[zd];exact h2
set_option maxHeartbeats 800000 in
theorem MN (m:Mid N L n s 0 D D t c) (hct:D.count<3000000000000000000) (hn:n<999980) {k:K} (V:uM N L t c k):MF D s k=true:=by
 have mt:=m.tick;have sl:=m.sh.sl;have h1:=m.t1.i1;have h2:=m.t1.i2;have Z:=m.t1.bn;have VG:=m.t1.kn;have htl:=m.sh.tl;have hrn:=m.t1.rn;have hen:=m.t1.en;have hl1:=m.sh.l1;have Hd:oP D s=true:=by
  unfold oP;rw[m.et];simp only[gQ,zd];omega
 unfold MF;rw[show decide (D.count<3000000000000000000)=true by simpa using hct,Bool.true_and];rw[m.et,m.ec]
 cases k with
 |fin r=>rfl
 |start h=>simp only[gQ,zd,oL];exact⟨V.1,.inr (mK m (by omega) V (.inl rfl))⟩
 |visit h F=>simp only[gQ];exact⟨lF V.2 sl,iX m.sh _⟩
 |older h F=>simp only[gQ,oL];exact⟨lF V.2 sl,.inr (mK m (by omega) V.1 (.inl rfl))⟩
 |maker h F id=>simp only[gQ,zd];exact⟨V.2.2,iX m.sh _⟩
 |ended h F mb=>simp only[gQ,oL];exact⟨⟨lF V.2.1 sl,iX m.sh _⟩,.inr (mK m (by omega) V.1 (.inr V.2.1))⟩
 |eY h F mb id=>simp only[gQ,zd,oL];exact⟨⟨⟨V.2.2.2,iX m.sh _⟩,Hd⟩,.inr (mK m (by omega) V.1 (.inr V.2.1))⟩
 |seen h F mb=>
  simp only[gQ,zd];refine⟨⟨⟨V.2.2,iX m.sh _⟩,Hd⟩,?_⟩
  split
  . obtain⟨t2,m2,e1,e2,-⟩:=mt.bind mb V.2.2
    exact mK m2 (by omega) (mI V.1 e1 e2) (.inr V.2.1)
  . exact mK mt (by omega) V.1 (.inr V.2.1)
 |again e=>
  obtain⟨-,-,x,hx,hxo⟩:=V;simp only[hx];exact lF hxo sl
 |own F=>simp only[gQ];exact⟨lF V.1 sl,iX m.sh _⟩
 |fG F w id=>simp only[gQ,zd];exact⟨V.2.2.2,iX m.sh _⟩
 |claim F w=>simp only[gQ,zd];exact⟨⟨⟨⟨⟨lF V.1 sl,h1⟩,by omega⟩,by rw[V.2.1];rfl⟩,by omega⟩,kY m.sh (by omega)⟩
 |fresh F=>simp only[gQ,zd];exact⟨⟨oG V.1 sl,V.2.2⟩,kY m.sh (by omega)⟩
 |next F head at_=>simp only[gQ,zd];exact⟨⟨oG V.1 sl,lF V.2.2.1 sl⟩,kY m.sh (by omega)⟩
 |free F head at_=>simp only[gQ,zd];exact⟨⟨⟨oG V.1 sl,lF V.2.2.1 sl⟩,kY m.sh (by omega)⟩,iX m.sh _⟩
 |dB F head at_ id=>simp only[gQ,zd];exact⟨⟨⟨oG V.1 sl,V.2.2.2.1⟩,iX m.sh _⟩,kY m.sh (by omega)⟩
 |dX x F head=>simp only[gQ,zd];exact⟨⟨lF V.1 sl,h1⟩,by omega⟩
 |dM x F head=>exact lF V.1 sl
 |push F head=>exact lF V.1 sl
 |dC F head=>simp only[gQ,zd];exact⟨⟨V.2.2.2,by rw[V.2.2.1];rfl⟩,by omega⟩
 |over F=>simp only[zd];exact V.2.2
 |fU F head=>exact lF V.1 sl
 |dI F head=>simp only[gQ,zd];exact⟨V.2.2.2,V.2.2.1⟩
 |draw=>simp only[zd];exact (m.sh.wd 0).u
 |dJ w now=>simp only[gQ,zd];exact⟨V.1,V.2.1⟩
 |turn w now=>
  have hn:now<L:=V;simp only[gQ,zd];omega
 |dD=>simp only[gQ,zd];omega
 |wait i=>
  have hi:i<t.aJ.length:=V;simp only[zx hi];simp only[gQ,zd];exact⟨⟨m.t1.bd _ (List.getElem_mem _),iX m.sh _⟩,by omega⟩
 |bO=>simp only[gQ,zd];exact⟨⟨⟨⟨by omega,h2⟩,by omega⟩,xy m.t1 sl⟩,by omega⟩
 |abort e r=>simp only[gQ,zd];exact⟨⟨⟨⟨⟨by omega,h1⟩,h2⟩,by omega⟩,xy m.t1 sl⟩,by omega⟩
 |turns l r=>
  cases l with
  |nil=>rfl
  |cons x l=>
   have:=V.2.2 x lJ;simp only[zd];rw[m.sh.nw];omega
theorem xA (h1:D.calls.length=8) (h2:τ.calls.length=8) (h:∀ q,q≠s->τ.calls.getD q none=D.calls.getD q none):iW D τ s=true:=by
 unfold iW;simp only[gQ,zd,List.all_eq_true,oL,beq_iff_eq];refine⟨⟨h1,h2⟩,fun q _=>?_⟩
 by_cases e:q=s
 . exact .inl e
 . exact .inr (h q e)
theorem Sh.same {bE:St} (h:Sh N L n D) (e1:bE.aC=D.aC) (e2:bE.limit=D.limit) (e3:bE.words=D.words) (e4:bE.tags=D.tags) (e5:bE.values=D.values) (e6:bE.ag.length=8) (e7:bE.calls.length=8) (e8:bE.aA=D.aA) (e9:bE.free=D.free) (e10:bE.listed=D.listed) (e11:bE.iA=D.iA) (e12:bE.aP=D.aP):Sh N L n bE:=by
 refine⟨by rw[e1];exact h.sl,by rw[e2];exact h.lm,h.n1,h.l1,by rw[e3];exact h.nw,by rw[e4];exact h.nt,by rw[e5];exact h.nv,e6,e7,by rw[e8];exact h.md,fun i=>?_,⟨fun i hi=>?_,by rw[e9];exact h.bK.nd,fun i=>by rw[e4];exact h.bK.tg i,fun e=>?_,fun e=>?_,fun e=>?_⟩,by rw[e11];exact h.wn,by rw[e12];exact h.tl,by rw[e12];exact h.tp⟩
 . have:bE.word i=D.word i:=by unfold St.word;rw[e3]
   rw[this];exact h.wd i
 . rw[e9] at hi;rw[e4];exact h.bK.fr i hi
 . rw[e10] at e;rw[e9,e4];exact h.bK.ls e
 . rw[e10] at e;rw[e11,e4];exact h.bK.w0 e
 . rw[e10] at e;rw[e9,e11,e4];exact h.bK.sm e
theorem SX.same {n':Nat} {bE:St} (h:SX N L n D) (e1:bE.sw=D.sw) (e2:bE.low=D.low) (e3:bE.cut=D.cut) (e4:bE.cuts=D.cuts) (e5:D.seq<=bE.seq) (hn:n<=n'):SX N L n' bE:=
 ⟨fun x hx=>h.so x (by rw[<-e1];exact hx),by rw[e2];exact h.lo,fun p hp=>by rw[e3] at hp;exact⟨(h.cu p hp).1,eP (h.cu p hp).2 e5⟩,by rw[e3,e4];exact h.cn,by rw[e4];exact eP h.cb hn⟩
theorem WF.mid (h:WF N L n D) (hs:s<8) {c:dF} (hc:D.calls.getD s none=some c):∃ t k,c.k=some k∧D.ag.getD s none=some t∧Mid N L n s 0 (D.aF s {c with waits:=false}) (D.aF s {c with waits:=false}) t {c with waits:=false}∧c.over=false∧c.r.over=0∧uM N L t {c with waits:=false} k:=by
 obtain⟨t,ht,hC⟩:=h.cx s c hc;obtain⟨k,V,hkk⟩:=hC.k;refine⟨t,k,V,ht,⟨hs,h.sh.aF s _,ht,?_,h.tx s t ht,hC.op,fun _ _=>rfl,fun _ _=>rfl,rfl,rfl,rfl,rfl,⟨rfl,rfl,rfl,rfl⟩,?_,?_⟩,hC.ov,hC.ro,?_⟩
 . show (D.calls.set s _).getD s none=_
   rw[aM _ _ _ _ (by rw[h.sh.c8];exact hs),aV rfl]
 . unfold St.c
   rw[show (D.aF s {c with waits:=false}).calls.getD s none=_ from aM _ _ _ _ (by rw[h.sh.c8];exact hs),aV rfl];exact⟨rfl,rfl⟩
 . show t.id=((D.ag.getD s none).getD default).id
   rw[ht];rfl
 . cases k<;>exact hkk
theorem uQ {k:K} {az:St} {ok:Option K} {c2:dF} (ht:D.ag.getD s none=some t) (hc:D.calls.getD s none=some c) (V:c.k=some k) (e:(D.aF s {c with waits:=false}).run s k=(az,ok)) (hc2:az.calls.getD s none=some c2)
 (hh:MF (D.aF s {c with waits:=false}) s k=true∧iW D az s=true∧D.count<=az.count∧az.count - D.count<1000000∧az.aL<1000000000000000000∧D.count<3000000000000000000):ja D s=jT D s az ok c2:=by
 unfold ja;rw[ht,hc];simp only
 split
 . rename_i k' hk'
   rw[V] at hk';obtain rfl:=zj hk';rw[e];simp only;rw[hc2];simp only;rw[aV hh]
 . rename_i h
   rw[V] at h
   cases h
theorem WF.step (h:WF N L n D) (hs:s<8) {c:dF} (hc:D.calls.getD s none=some c) (hct:D.count<2999999999999999999) (hlk:D.aL<999999999999999999) (hn:n<999970):
 ∃ bE kd r,ja D s=some (bE,kd,r)∧WF N L (n+3) bE∧D.count<=bE.count∧bE.count<=D.count+1∧D.aL<=bE.aL∧bE.aL<=D.aL+1∧bE.seq=D.seq∧bE.aA=D.aA∧1<=kd∧kd<=3
  ∧(kd=3∨∃ c',bE.calls.getD s none=some c'∧c'.waits=decide (kd=2))∧(kd=3->bE.calls.getD s none=none∧(r.over=0↔(bE.ag.getD s none).isSome=true)∧(r.over=0∨r.over=3∨r.over=4))∧(kd≠3->r={})
  ∧(∀ q,q≠s->bE.ag.getD q none=D.ag.getD q none∧bE.calls.getD q none=D.calls.getD q none)∧((bE.ag.getD s none).isSome=true∨kd=3)∧(∀ u u2,D.ag.getD s none=some u->bE.ag.getD s none=some u2->u2.id=u.id):=by
 obtain⟨t,k,V,ht,m,ho,hr,hkk⟩:=h.mid hs hc;have R7:=MN m (show D.count<_ by omega) (by omega) hkk;obtain⟨d,hd,sP⟩:=yJ m ho hr rfl hkk
 cases e:(D.aF s {c with waits:=false}).run s k with
 |mk az ok=>
 rw[e] at sP;have hrest:∀ t2 c2,Mid N L (n+2) s d (D.aF s {c with waits:=false}) az t2 c2->MF (D.aF s {c with waits:=false}) s k=true∧iW D az s=true∧D.count<=az.count∧az.count - D.count<1000000∧az.aL<1000000000000000000∧D.count<3000000000000000000:=by
  intro t2 c2 m2;have e1:az.count=D.count+d:=m2.ct;have e2:az.aL=D.aL:=m2.lk;refine⟨R7,xA h.sh.c8 m2.sh.c8 (fun q hq=>?_),by omega,by omega,by omega,by omega⟩;rw[m2.oc q hq];show (D.calls.set s _).getD q none=_;rw[aM _ _ _ _ (by rw[h.sh.c8];exact hs),aX hq]
 have hoc:∀ t2 c2,Mid N L (n+2) s d (D.aF s {c with waits:=false}) az t2 c2->∀ q,q≠s->az.ag.getD q none=D.ag.getD q none∧az.calls.getD q none=D.calls.getD q none:=by
  intro t2 c2 m2 q hq;refine⟨m2.ox q hq,?_⟩;rw[m2.oc q hq];show (D.calls.set s _).getD q none=_;rw[aM _ _ _ _ (by rw[h.sh.c8];exact hs),aX hq]
 have hT:∀ t2 c2,Mid N L (n+2) s d (D.aF s {c with waits:=false}) az t2 c2->∀ q u,az.ag.getD q none=some u->TX N L (n+3) u:=by
  intro t2 c2 m2 q u hu
  by_cases hq:q=s
  . subst hq
    rw[m2.tx] at hu;obtain rfl:=zj hu;exact m2.t1.mono (by omega)
  . rw[m2.ox q hq] at hu
    exact (h.tx q u hu).mono (by omega)
 have R8:∀ t2 c2,Mid N L (n+2) s d (D.aF s {c with waits:=false}) az t2 c2->∀ q u,az.ag.getD q none=some u->u.id<=az.aA:=by
  intro t2 c2 m2 q u hu;rw[m2.md]
  by_cases hq:q=s
  . subst hq
    rw[m2.tx] at hu;obtain rfl:=zj hu;rw[m2.tq,<-m.tq];exact h.ti q t ht
  . rw[m2.ox q hq] at hu
    exact h.ti q u hu
 have hC:∀ t2 c2,Mid N L (n+2) s d (D.aF s {c with waits:=false}) az t2 c2->∀ q u,q≠s->az.calls.getD q none=some u->∃ v,az.ag.getD q none=some v∧CX N L v u:=by
  intro t2 c2 m2 q u hq hu;rw[(hoc t2 c2 m2 q hq).2] at hu;obtain⟨v,hv,hx⟩:=h.cx q u hu;exact⟨v,by rw[(hoc t2 c2 m2 q hq).1];exact hv,hx⟩
 have hS:∀ t2 c2,Mid N L (n+2) s d (D.aF s {c with waits:=false}) az t2 c2->∀ {FK:St},FK.sw=az.sw->FK.low=az.low->FK.cut=az.cut->FK.cuts=az.cuts->FK.seq=az.seq->SX N L (n+3) FK:=by
  intro t2 c2 m2 FK e1 e2 e3 e4 e5;obtain⟨f1,f2,f3,f4⟩:=m2.sp;exact h.sx.same (e1.trans f1) (e2.trans f2) (e3.trans f3) (e4.trans f4) (by rw[e5,m2.sq];exact zr _) (by omega)
 have hid:∀ t2 c2,Mid N L (n+2) s d (D.aF s {c with waits:=false}) az t2 c2->∀ u u2,D.ag.getD s none=some u->az.ag.getD s none=some u2->u2.id=u.id:=by
  intro t2 c2 m2 u u2 hu hu2;rw[m2.tx] at hu2;obtain rfl:=zj hu2;rw[ht] at hu;obtain rfl:=zj hu;rw[m2.tq,<-m.tq]
 cases ok with
 |some k'=>
  obtain⟨t2,c2,m2,h1,h2,h3⟩:=sP;simp only at m2;have e1:az.count=D.count+d:=m2.ct;have e2:az.aL=D.aL:=m2.lk;have rG:s<az.calls.length:=by rw[m2.sh.c8];exact hs
  rw[uQ ht hc V e m2.ca (hrest t2 c2 m2)];unfold jT;simp only;rw[aV h1];refine⟨_,_,_,rfl,⟨?_,?_,?_,?_,?_⟩,?_,?_,?_,?_,?_,?_,?_,?_,?_,?_,?_,?_,?_,?_⟩
  . exact ((m2.sh.aF s {c2 with k:=some k'}).mono (by omega)).same rfl rfl rfl rfl rfl (by show (az.ag).length=8;exact m2.sh.t8) (by show (az.calls.set s _).length=8;rw[pz];exact m2.sh.c8) rfl rfl rfl rfl rfl
  . exact hS t2 c2 m2 rfl rfl rfl rfl rfl
  . exact hT t2 c2 m2
  . exact R8 t2 c2 m2
  . intro q u hu
    change (az.calls.set s _).getD q none=some u at hu;rw[aM _ _ _ _ rG] at hu
    split at hu
    . rename_i hq
      subst hq;obtain rfl:=zj hu;exact⟨t2,m2.tx,m2.op,h1,h2,k',rfl,by cases k'<;>exact h3⟩
    . rename_i hq
      exact hC t2 c2 m2 q u hq hu
  . show D.count<=az.count;omega
  . show az.count<=D.count+1;omega
  . show D.aL<=az.aL+(az.count - D.count);omega
  . show az.aL+(az.count - D.count)<=D.aL+1;omega
  . exact m2.sq
  . exact m2.md
  . cases c2.waits<;>simp
  . cases c2.waits<;>simp
  . right
    refine⟨{c2 with k:=some k'},?_,?_⟩
    . show (az.calls.set s _).getD s none=_
      rw[aM _ _ _ _ rG,aV rfl]
    . show c2.waits=_
      cases c2.waits<;>simp
  . intro h3;cases hw:c2.waits<;>simp[hw] at h3
  . intro _;rfl
  . intro q hq
    refine⟨(hoc t2 c2 m2 q hq).1,?_⟩;show (az.calls.set s _).getD q none=_;rw[aM _ _ _ _ rG,aX hq];exact (hoc t2 c2 m2 q hq).2
  . left
    show (az.ag.getD s none).isSome=true;rw[m2.tx];rfl
  . exact hid t2 c2 m2
 |none=>
  obtain⟨t2,c2,m2,h1,h2,h3⟩:=sP;simp only at m2;have e1:az.count=D.count+d:=m2.ct;have e2:az.aL=D.aL:=m2.lk;have rG:s<az.calls.length:=by rw[m2.sh.c8];exact hs
  have sO:s<az.ag.length:=by rw[m2.sh.t8];exact hs
  have htl:=m2.sh.tl;rw[uQ ht hc V e m2.ca (hrest t2 c2 m2)];unfold jT;simp only;have hp:c2.r.aB.length<=1000000:=by
   rcases h3 with h3|h3
   . have:=h3.2;omega
   . rw[h3.2];simp
  rw[aV ⟨h2,h1,hp⟩];have xB:∀ x q,((az.calls.set s x).set s none).getD q none=if q=s then none else az.calls.getD q none:=by
   intro x q;rw[List.set_set,aM _ _ _ _ rG]
  rcases h3 with ⟨h3,h4⟩|⟨h3,h4⟩
  . rw[aV h3,m2.tx]
    simp only;rw[aV (by omega)];refine⟨_,_,_,rfl,⟨?_,?_,?_,?_,?_⟩,?_,?_,?_,?_,?_,?_,?_,?_,?_,?_,?_,?_,?_,?_⟩
    . refine Sh.event (n:=n+2) ?_ _ h4
      exact (m2.sh.aF s {c2 with k:=none}).same rfl rfl rfl rfl rfl (by show (az.ag).length=8;exact m2.sh.t8) (by show ((az.calls.set s _).set s none).length=8;rw[pz,pz];exact m2.sh.c8) rfl rfl rfl rfl rfl
    . exact hS t2 c2 m2 rfl rfl rfl rfl rfl
    . exact hT t2 c2 m2
    . exact R8 t2 c2 m2
    . intro q u hu
      change ((az.calls.set s _).set s none).getD q none=some u at hu;rw[xB] at hu
      split at hu
      . cases hu
      . rename_i hq
        exact hC t2 c2 m2 q u hq hu
    . show D.count<=az.count;omega
    . show az.count<=D.count+1;omega
    . show D.aL<=az.aL+(az.count - D.count);omega
    . show az.aL+(az.count - D.count)<=D.aL+1;omega
    . exact m2.sq
    . exact m2.md
    . omega
    . omega
    . exact .inl rfl
    . intro _
      refine⟨?_,?_⟩
      . show ((az.calls.set s _).set s none).getD s none=none
        rw[xB,aV rfl]
      . refine⟨⟨fun _=>?_,fun _=>h3⟩,.inl h3⟩
        show (az.ag.getD s none).isSome=true;rw[m2.tx];rfl
    . intro e;exact absurd rfl e
    . intro q hq
      refine⟨(hoc t2 c2 m2 q hq).1,?_⟩;show ((az.calls.set s _).set s none).getD q none=_;rw[xB,aX hq];exact (hoc t2 c2 m2 q hq).2
    . exact .inr rfl
    . exact hid t2 c2 m2
  . have h3':c2.r.over≠0:=by omega
    rw[aX h3',aV h4];refine⟨_,_,_,rfl,⟨?_,?_,?_,?_,?_⟩,?_,?_,?_,?_,?_,?_,?_,?_,?_,?_,?_,?_,?_,?_⟩
    . exact ((m2.sh.aF s {c2 with k:=none}).mono (by omega)).same rfl rfl rfl rfl rfl (by show (az.ag.set s none).length=8;rw[pz];exact m2.sh.t8) (by show ((az.calls.set s _).set s none).length=8;rw[pz,pz];exact m2.sh.c8) rfl rfl rfl rfl rfl
    . exact hS t2 c2 m2 rfl rfl rfl rfl rfl
    . intro q u hu
      change (az.ag.set s none).getD q none=some u at hu;rw[aM _ _ _ _ sO] at hu
      split at hu
      . cases hu
      . exact hT t2 c2 m2 q u hu
    . intro q u hu
      change (az.ag.set s none).getD q none=some u at hu;rw[aM _ _ _ _ sO] at hu
      split at hu
      . cases hu
      . exact R8 t2 c2 m2 q u hu
    . intro q u hu
      change ((az.calls.set s _).set s none).getD q none=some u at hu;rw[xB] at hu
      split at hu
      . cases hu
      . rename_i hq
        obtain⟨v,hv,hx⟩:=hC t2 c2 m2 q u hq hu;refine⟨v,?_,hx⟩;show (az.ag.set s none).getD q none=some v;rw[aM _ _ _ _ sO,aX hq];exact hv
    . show D.count<=az.count;omega
    . show az.count<=D.count+1;omega
    . show D.aL<=az.aL+(az.count - D.count);omega
    . show az.aL+(az.count - D.count)<=D.aL+1;omega
    . exact m2.sq
    . exact m2.md
    . omega
    . omega
    . exact .inl rfl
    . intro _
      refine⟨?_,?_⟩
      . show ((az.calls.set s _).set s none).getD s none=none
        rw[xB,aV rfl]
      . refine⟨⟨fun e=>absurd e h3',fun e=>?_⟩,.inr h3⟩
        change ((az.ag.set s none).getD s none).isSome=true at e;rw[aM _ _ _ _ sO,aV rfl] at e
        cases e
    . intro e;exact absurd rfl e
    . intro q hq
      refine⟨?_,?_⟩
      . show (az.ag.set s none).getD q none=_
        rw[aM _ _ _ _ sO,aX hq];exact (hoc t2 c2 m2 q hq).1
      . show ((az.calls.set s _).set s none).getD q none=_
        rw[xB,aX hq];exact (hoc t2 c2 m2 q hq).2
    . exact .inr rfl
    . intro u u2 hu hu2
      change (az.ag.set s none).getD s none=some u2 at hu2;rw[aM _ _ _ _ sO,aV rfl] at hu2
      cases hu2
end
section
variable {N L n s d:Nat} {D τ:St} {t:bB} {c:dF}
theorem Bf {o:En.Op} (h:jK o=true):o.E<64∧o.hi<=63∧1<=o.kind∧o.kind<=7:=by
 obtain⟨k,E,hi,v⟩:=o;unfold jK at h;simp only at h
 split at h
 all_goals (try (simp only[gQ,zd,beq_iff_eq] at h))
 all_goals (try (simp only;omega))
 cases h
theorem rH (m:Mid N L n s d D τ t c) (ho:c.over=false) (hr:c.r={}):Out N L n s d D (τ.first s):=by
 obtain⟨V,hh,hk1,U1⟩:=Bf m.op;have hro:c.r.over=0:=by rw[hr]
 unfold St.first;rw[m.ec,m.et];simp only
 split
 . split
   . split
     . exact⟨t,c,m,ho,hro,rfl,zz _⟩
     . exact⟨t,c,m,ho,hro,rfl,zz _⟩
   . exact⟨t,c,m,ho,hro,V,trivial⟩
 . unfold St.scan
   exact uN (E:=0) _ _ _ c m ho hro hh (by omega) (by rw[hr];simp)
 . exact⟨t,c,m,ho,hro,trivial⟩
 . exact⟨t,c,m,ho,hro,trivial⟩
 . split
   . rename_i x hx
     split
     . exact⟨t,c,m,ho,hro,rfl,zz _⟩
     split
     . exact⟨t,c,m,ho,hro,rfl,zz _⟩
     split
     . exact uO m ho hro (.inl rfl) V (by simp only[if_true];rw[hx];rfl)
     . rename_i h0
       refine⟨t,c,m,ho,hro,?_,?_,x,hx,(m.t1.cell hx).1.of h0⟩
       . show (if c.op.kind=4 then mine t else ever)<_
         split
         . exact lZ m.t1
         . decide
       . show Wd (if c.op.kind=4 then mine t else ever)
         split
         . exact lY m.t1
         . exact qJ
   . rename_i hx
     exact⟨t,c,m,ho,hro,V,rfl,hx⟩
theorem CR (m:Mid N L n s d D τ t c) (hr:c.r={}) (hn:n<999980):lW τ s=true:=by
 obtain⟨V,hh,hk1,U1⟩:=Bf m.op;have h1:=m.t1.i1;have h2:=m.t1.i2;have hw:lW.oQ τ s=true:=by
  unfold lW.oQ;rw[m.et,m.ec]
  split
  . rfl
  . simp only[gQ,zd]
    exact⟨⟨h1,by omega⟩,kY m.sh (by omega)⟩
 unfold lW;rw[m.ec,m.et]
 split
 . rfl
 . rfl
 . split
   . rfl
   . rename_i x hx
     cases e:x.there with
     |false=>rfl
     |true=>simp[lF ((m.t1.cell hx).2.2 e) m.sh.sl]
 . simp only[gQ,zd]
   exact⟨⟨⟨by omega,hh⟩,xz m.t1 m.sh.sl⟩,by rw[hr];simp⟩
 . exact hw
 . exact hw
 . exact hw
 . exfalso
   have h9:c.op.kind=1∨c.op.kind=2∨c.op.kind=3∨c.op.kind=4∨c.op.kind=5∨c.op.kind=6∨c.op.kind=7:=by omega
   rcases h9 with e|e|e|e|e|e|e<;>exact absurd e (by assumption)
def gX (o:En.Op) (t:bB):bB:=if iB o then t else {t with ops:=t.ops+1}
theorem WF.MO (h:WF N L n D) (hs:s<8) {t:bB} (ht:D.ag.getD s none=some t) (o:En.Op) (ho:jK o=true) (hop:t.ops<12∨iB o=true):Mid N L n s 0 (bR D s o t) (bR D s o t) (gX o t) (fJ o (D.seq+1)):=by
 have hT:=h.tx s t ht;have h8:s<D.calls.length:=by rw[h.sh.c8];exact hs
 have h8':s<D.ag.length:=by rw[h.sh.t8];exact hs
 unfold bR gX
 cases he:iB o with
 |true=>
  simp only[if_true];refine⟨hs,?_,ht,?_,hT,ho,fun _ _=>rfl,fun _ _=>rfl,rfl,rfl,rfl,rfl,⟨rfl,rfl,rfl,rfl⟩,?_,?_⟩
  . exact (h.sh.aF s (fJ o (D.seq+1))).same rfl rfl rfl rfl rfl h.sh.t8 (by show (D.calls.set s _).length=8;rw[pz];exact h.sh.c8) rfl rfl rfl rfl rfl
  . show (D.calls.set s _).getD s none=_
    rw[aM _ _ _ _ h8,aV rfl]
  . unfold St.c
    rw[show (({D with seq:=D.seq+1}:St).aF s (fJ o (D.seq+1))).calls.getD s none=_ from aM _ _ _ _ h8,aV rfl];exact⟨rfl,rfl⟩
  . show t.id=((D.ag.getD s none).getD default).id
    rw[ht];rfl
 |false=>
  simp only[Bool.false_eq_true,if_false];have h12:t.ops<12:=hop.resolve_right (by rw[he];simp);have FM:TX N L n {t with ops:=t.ops+1}:=⟨hT.i1,hT.i2,h12,hT.bg,hT.en,hT.ce,hT.ky,hT.kn,hT.rd,hT.rn,hT.bd,hT.bn⟩
  refine⟨hs,?_,?_,?_,FM,ho,fun _ _=>rfl,fun _ _=>rfl,rfl,rfl,rfl,rfl,⟨rfl,rfl,rfl,rfl⟩,?_,?_⟩
  . exact ((h.sh.bq s {t with ops:=t.ops+1}).aF s (fJ o (D.seq+1))).same rfl rfl rfl rfl rfl (by show (D.ag.set s _).length=8;rw[pz];exact h.sh.t8) (by show (D.calls.set s _).length=8;rw[pz];exact h.sh.c8) rfl rfl rfl rfl rfl
  . show (D.ag.set s _).getD s none=_
    rw[aM _ _ _ _ h8',aV rfl]
  . show (D.calls.set s _).getD s none=_
    rw[aM _ _ _ _ h8,aV rfl]
  . unfold St.c
    rw[show (({(D.bq s {t with ops:=t.ops+1}) with seq:=D.seq+1}:St).aF s (fJ o (D.seq+1))).calls.getD s none=_ from aM _ _ _ _ h8,aV rfl];exact⟨rfl,rfl⟩
  . show t.id=(((D.ag.set s (some {t with ops:=t.ops+1})).getD s none).getD default).id
    rw[aM _ _ _ _ h8',aV rfl];rfl
theorem rJ (D:St) (s:Nat) (o:En.Op) (t:bB):(bR D s o t).count=D.count∧(bR D s o t).aL=D.aL∧(bR D s o t).seq=D.seq+1∧(bR D s o t).aA=D.aA∧(bR D s o t).sw=D.sw∧(bR D s o t).low=D.low∧(bR D s o t).cut=D.cut∧(bR D s o t).cuts=D.cuts∧(bR D s o t).aP=D.aP∧(bR D s o t).words=D.words:=by
 unfold bR;split<;>exact⟨rfl,rfl,rfl,rfl,rfl,rfl,rfl,rfl,rfl,rfl⟩
theorem xC (D:St) (s:Nat) (o:En.Op) (t:bB) (hs:s<D.calls.length) (hs2:s<D.ag.length) (q:Nat) (hq:q≠s):(bR D s o t).ag.getD q none=D.ag.getD q none∧(bR D s o t).calls.getD q none=D.calls.getD q none:=by
 unfold bR
 split
 . refine⟨rfl,?_⟩
   show (D.calls.set s _).getD q none=_;rw[aM _ _ _ _ hs,aX hq]
 . refine⟨?_,?_⟩
   . show (D.ag.set s _).getD q none=_
     rw[aM _ _ _ _ hs2,aX hq]
   . show (D.calls.set s _).getD q none=_
     rw[aM _ _ _ _ hs,aX hq]
theorem WF.nN (h:WF N L n D) (hs:s<8) {t:bB} (ht:D.ag.getD s none=some t) (hc:D.calls.getD s none=none) {o:En.Op} (ho:jK o=true) (hop:t.ops<12∨iB o=true) (vY:D.seq<3999999999999999999) (hn:n<999970):
 ∃ aH,gV D s o=some aH∧WF N L n aH∧aH.count=D.count∧aH.aL=D.aL∧aH.seq=D.seq+1∧aH.aA=D.aA∧(∃ c,aH.calls.getD s none=some c∧c.op=o)∧(aH.ag.getD s none).isSome=true
  ∧(∀ q,q≠s->aH.ag.getD q none=D.ag.getD q none∧aH.calls.getD q none=D.calls.getD q none)∧(∀ u,aH.ag.getD s none=some u->u.id=t.id):=by
 have m:=h.MO hs ht o ho hop;obtain⟨f1,f2,f3,f4,f5,f6,f7,f8,f9,f10⟩:=rJ D s o t;have fo:=xC D s o t (by rw[h.sh.c8];exact hs) (by rw[h.sh.t8];exact hs);have hf:=CR m rfl (by omega);have hout:=rH m rfl rfl;have hops:=(h.tx s t ht).op;unfold gV;rw[ht];simp only;rw[aV ⟨ho,by rw[hc];rfl,hop.imp id (fun e=>⟨e,by omega⟩),by omega,by rw[h.sh.c8];exact hs,by rw[h.sh.t8];exact hs,hf⟩]
 cases e:(bR D s o t).first s with
 |mk dL k=>
 rw[e] at hout;obtain⟨t2,c2,m2,h1,h2,h3⟩:=hout;simp only at m2 h3 ⊢;rw[m2.ca];simp only;have hoc:∀ q,q≠s->dL.ag.getD q none=D.ag.getD q none∧dL.calls.getD q none=D.calls.getD q none:=fun q hq=>⟨(m2.ox q hq).trans (fo q hq).1,(m2.oc q hq).trans (fo q hq).2⟩
 rw[aV (xA h.sh.c8 m2.sh.c8 (fun q hq=>(hoc q hq).2))];obtain⟨g1,g2,g3,g4⟩:=m2.sp;have rG:s<dL.calls.length:=by rw[m2.sh.c8];exact hs
 refine⟨_,rfl,⟨m2.sh.aF s _,?_,?_,?_,?_⟩,?_,?_,?_,?_,?_,?_,?_,?_⟩
 . exact h.sx.same (g1.trans f5) (g2.trans f6) (g3.trans f7) (g4.trans f8) (by show D.seq<=dL.seq;rw[m2.sq,f3];omega) (zr _)
 . intro q u hu
   change dL.ag.getD q none=some u at hu
   by_cases hq:q=s
   . subst hq
     rw[m2.tx] at hu;obtain rfl:=zj hu;exact m2.t1
   . rw[(hoc q hq).1] at hu
     exact h.tx q u hu
 . intro q u hu
   change dL.ag.getD q none=some u at hu;show u.id<=dL.aA;rw[m2.md,f4]
   by_cases hq:q=s
   . subst hq
     rw[m2.tx] at hu;obtain rfl:=zj hu;rw[m2.tq,<-m.tq];have:=h.ti q t ht;unfold gX
     split<;>exact this
   . rw[(hoc q hq).1] at hu
     exact h.ti q u hu
 . intro q u hu
   change (dL.calls.set s _).getD q none=some u at hu;rw[aM _ _ _ _ rG] at hu
   split at hu
   . rename_i hq
     subst hq;obtain rfl:=zj hu;exact⟨t2,m2.tx,m2.op,h1,h2,k,rfl,by cases k<;>exact h3⟩
   . rename_i hq
     rw[(hoc q hq).2] at hu;obtain⟨v,hv,hx⟩:=h.cx q u hu;exact⟨v,by show dL.ag.getD q none=_;rw[(hoc q hq).1];exact hv,hx⟩
 . show dL.count=_;have:=m2.ct;omega
 . show dL.aL=_;rw[m2.lk,f2]
 . show dL.seq=_;rw[m2.sq,f3]
 . show dL.aA=_;rw[m2.md,f4]
 . refine⟨{c2 with k:=some k},?_,?_⟩
   . show (dL.calls.set s _).getD s none=_
     rw[aM _ _ _ _ rG,aV rfl]
   . show c2.op=o
     rw[m2.oq.1,m.ec];rfl
 . show (dL.ag.getD s none).isSome=true
   rw[m2.tx];rfl
 . intro q hq
   refine⟨(hoc q hq).1,?_⟩;show (dL.calls.set s _).getD q none=_;rw[aM _ _ _ _ rG,aX hq];exact (hoc q hq).2
 . intro u hu
   change dL.ag.getD s none=some u at hu;rw[m2.tx] at hu;obtain rfl:=zj hu;rw[m2.tq,<-m.tq];unfold gX
   split<;>rfl
end
section
variable {N L n s d:Nat} {D τ:St} {t:bB} {c:dF}
theorem WF.new {N L:Nat} (h1:N<=256) (h2:L<=1099511627776):WF N L 0 (new N L):=by
 have e0:∀ (α:Type) (q:Nat),(List.replicate 8 (none:Option α)).getD q none=none:=fun α q=>by
  rw[mM,List.getElem?_replicate];split<;>rfl
 refine⟨⟨rfl,rfl,h1,h2,?_,?_,?_,rfl,rfl,zz _,fun i=>?_,⟨fun i hi=>(by cases hi),List.nodup_nil,fun i=>?_,fun _=>⟨rfl,fun i=>?_⟩,fun _=>⟨rfl,?_⟩,fun e=>(by cases e)⟩,zr _,zr _,fun e he=>(by cases he)⟩,⟨fun x hx=>(by cases hx),zz _,fun p hp=>(by cases hp),zr _,zr _⟩,fun s t ht=>?_,fun s t ht=>?_,fun s c hc=>?_⟩
 . show (List.replicate (73+N*3+2000+1) 0).length=_;rw[List.length_replicate]
 . show (List.replicate N (0,false)).length=N;rw[List.length_replicate]
 . show (List.replicate N (0,0)).length=N;rw[List.length_replicate]
 . have:(En.new N L).word i=0:=by
    show (List.replicate (73+N*3+2000+1) 0).getD i 0=0;rw[mM,List.getElem?_replicate];split<;>rfl
   rw[this];exact zq.zero N L i
 . show ((List.replicate N (0,false)).getD i (0,false)).1<=65535
   rw[mM,List.getElem?_replicate];split<;>simp
 . show ((List.replicate N (0,false)).getD i (0,false)).2=false
   rw[mM,List.getElem?_replicate];split<;>rfl
 . show (List.replicate N (0,false)).countP (·.2)=0
   rw[List.countP_replicate];rfl
 . exact absurd ht (by rw[show (En.new N L).ag.getD s none=none from e0 _ s];simp)
 . exact absurd ht (by rw[show (En.new N L).ag.getD s none=none from e0 _ s];simp)
 . exact absurd hc (by rw[show (En.new N L).calls.getD s none=none from e0 _ s];simp)
theorem Sh.aA (h:Sh N L n D) (h2:D.aA<2000):Sh N L n {D with aA:=D.aA+1}:=
 ⟨h.sl,h.lm,h.n1,h.l1,h.nw,h.nt,h.nv,h.t8,h.c8,h2,h.wd,⟨h.bK.fr,h.bK.nd,h.bK.tg,h.bK.ls,h.bK.w0,h.bK.sm⟩,h.wn,h.tl,h.tp⟩
theorem He (h:Sh N L n D) (hs:s<8) {az:St} (h2:Sh N L n az) (hm:az.aA=D.aA) (hmd:D.aA<2000) (hlim:ai (D.word 0)<L) (ak:Nat):Sh N L (n+1) (bC D s ak az):=by
 have hm2:Sh N L n {az with aA:=D.aA+1}:=by
  have:=h2.aA (by rw[hm];exact hmd);rw[hm] at this;exact this
 unfold bC;refine Sh.event ?_ _;refine Sh.bq ?_ s _;refine Sh.put ?_ (DZ hs (by omega) h.l1);refine Sh.put ?_ ?_
 . exact hm2.bP (uP (by omega) h.l1 (by omega))
 . rw[h.place]
   exact mJ (oZ (by omega) (by omega))
theorem Hf {id ak bg:Nat} (h1:1<=id) (h2:id<=2000) (h3:bg<=L):TX N L n (eT id ak bg):=
 ⟨h1,h2,zz _,h3,zz _,fun p hp=>(by cases hp),fun k V=>(by cases V),zz _,fun r hr=>(by cases hr),zz _,fun b Z=>(by cases Z),zz _⟩
theorem rM (D:St) (s ak:Nat) (az:St):(bC D s ak az).aL=az.aL∧(bC D s ak az).seq=az.seq∧(bC D s ak az).aA=D.aA+1∧(bC D s ak az).sw=az.sw∧(bC D s ak az).low=az.low∧(bC D s ak az).cut=az.cut∧(bC D s ak az).cuts=az.cuts∧(bC D s ak az).calls=az.calls∧(bC D s ak az).ag=az.ag.set s (some (eT (D.aA+1) ak (ai (D.word 0)+1)))∧(bC D s ak az).count=az.count+3:=by
 have e:∀ (τ:St) (i o v:Nat),(τ.bP i o v).aL=τ.aL∧(τ.bP i o v).seq=τ.seq∧(τ.bP i o v).aA=τ.aA∧(τ.bP i o v).sw=τ.sw∧(τ.bP i o v).low=τ.low∧(τ.bP i o v).cut=τ.cut∧(τ.bP i o v).cuts=τ.cuts∧(τ.bP i o v).calls=τ.calls∧(τ.bP i o v).ag=τ.ag∧(τ.bP i o v).count=τ.count+1:=by
  intro τ i o v;unfold St.bP;split<;>exact⟨rfl,rfl,rfl,rfl,rfl,rfl,rfl,rfl,rfl,rfl⟩
 obtain⟨e1,e2,e3,e4,e5,e6,e7,e8,e9,e10⟩:=e ({az with aA:=D.aA+1}:St) 0 (D.word 0) (aO (ai (D.word 0)+1) 0);unfold bC;refine⟨e1,e2,e3,e4,e5,e6,e7,e8,?_,?_⟩
 . show (St.ag _).set s _=_
   show (({az with aA:=D.aA+1}:St).bP 0 (D.word 0) (aO (ai (D.word 0)+1) 0)).ag.set s _=_;rw[e9]
 . show (({az with aA:=D.aA+1}:St).bP 0 (D.word 0) (aO (ai (D.word 0)+1) 0)).count+1+1=_
   rw[e10]
theorem MP (D:St) (w:Nat):(D.bT w).aL=D.aL∧(D.bT w).seq=D.seq∧(D.bT w).aA=D.aA∧(D.bT w).sw=D.sw∧(D.bT w).low=D.low∧(D.bT w).cut=D.cut∧(D.bT w).cuts=D.cuts∧(D.bT w).calls=D.calls∧(D.bT w).ag=D.ag∧(D.bT w).count=D.count+1:=by
 unfold St.bT St.bP;split<;>exact⟨rfl,rfl,rfl,rfl,rfl,rfl,rfl,rfl,rfl,rfl⟩
theorem Sh.bT (h:Sh N L n D) {w:Nat} (hw:ai w<=L):Sh N L n (D.bT w):=by
 unfold St.bT;rw[h.place];exact h.bP (mJ (oZ (by omega) (eP hw h.l1)))
theorem Bg (D:St) (i o v j:Nat):(D.bP i o v).word j=if D.word i=o∧j=i∧i<D.words.length then v else D.word j:=by
 unfold St.bP
 by_cases h:D.word i=o
 . rw[aV h,eZ];simp[h]
 . rw[aX h];simp[h];rfl
theorem yK (h:Sh N L n D) (hs:s<8) (ak:Nat) {az:St} (h2:Sh N L n az) (hw:az.word 0=D.word 0):(bC D s ak az).word 0=aO (ai (D.word 0)+1) 0:=by
 have hl:=h2.nw;unfold bC;show ((((({az with aA:=D.aA+1}:St).bP 0 (D.word 0) (aO (ai (D.word 0)+1) 0)).put (D.place (D.aA+1)) (pack 1 0)).put (1+s) (ai (D.word 0)+1))).word 0=_;rw[eZ,aX (by omega),eZ,aX (by rw[h.place];omega),Bg,aV ⟨hw,rfl,by show 0<az.words.length;omega⟩]
theorem CU (h:Sh N L n D) (w:Nat):(D.bT w).word 0=D.word 0:=by
 unfold St.bT;rw[Bg,aX (by rw[h.place];omega)]
theorem WF.aG (h:WF N L n D) (hs:s<8) (ht:D.ag.getD s none=none) {ak:Nat} (hl1:1<=ak) (hl3:ak<=3) (hmd:D.aA<2000) (hlim:ai (D.word 0)<D.limit) (hct:D.count<2999999999999999999) (hn:n<999970):
 ∃ aH,gG D s ak=some (aH,D.aA+1)∧WF N L (n+1) aH∧D.count<=aH.count∧aH.count<=D.count+5∧aH.aL=D.aL∧aH.seq=D.seq∧aH.aA=D.aA+1∧aH.calls=D.calls∧(aH.ag.getD s none)=some (eT (D.aA+1) ak (ai (D.word 0)+1))
  ∧(∀ q,q≠s->aH.ag.getD q none=D.ag.getD q none)∧aH.word 0=aO (ai (D.word 0)+1) 0:=by
 have Pq:ai (D.word 0)<L:=by rw[<-h.sh.lm];exact hlim
 have hl:=h.sh.l1;have hck:=(h.sh.wd 0).ck rfl;have hcn:D.calls.getD s none=none:=by
  cases e:D.calls.getD s none with
  |none=>rfl
  |some c=>
   obtain⟨t,ht2,-⟩:=h.cx s c e;rw[ht] at ht2;cases ht2
 have htl:=h.sh.tl;unfold gG;rw[aV ⟨hl1,hl3,by rw[ht];rfl,by rw[hcn];rfl,hmd,(h.sh.wd 0).u,by omega,hlim,by omega,by omega⟩];have E:∀ az:St,Sh N L n az->az.word 0=D.word 0->az.aL=D.aL->az.seq=D.seq->az.aA=D.aA->az.sw=D.sw->az.low=D.low->az.cut=D.cut->az.cuts=D.cuts->az.calls=D.calls->az.ag=D.ag->D.count<=az.count->az.count<=D.count+2->
  WF N L (n+1) (bC D s ak az)∧D.count<=(bC D s ak az).count∧(bC D s ak az).count<=D.count+5∧(bC D s ak az).aL=D.aL∧(bC D s ak az).seq=D.seq∧(bC D s ak az).aA=D.aA+1∧(bC D s ak az).calls=D.calls∧((bC D s ak az).ag.getD s none)=some (eT (D.aA+1) ak (ai (D.word 0)+1))
  ∧(∀ q,q≠s->(bC D s ak az).ag.getD q none=D.ag.getD q none)∧(bC D s ak az).word 0=aO (ai (D.word 0)+1) 0:=by
  intro az hS2 hw0 g1 g2 g3 g4 g5 g6 g7 g8 g9 g10 g11;obtain⟨f1,f2,f3,f4,f5,f6,f7,f8,f9,f10⟩:=rM D s ak az;have sO:s<D.ag.length:=by rw[h.sh.t8];exact hs
  have Ps:∀ q,(bC D s ak az).ag.getD q none=if q=s then some (eT (D.aA+1) ak (ai (D.word 0)+1)) else D.ag.getD q none:=by
   intro q;rw[f9,g9,aM _ _ _ _ sO]
  refine⟨⟨He h.sh hs hS2 g3 hmd Pq ak,?_,?_,?_,?_⟩,by omega,by omega,f1.trans g1,f2.trans g2,f3,f8.trans g8,by rw[Ps,aV rfl],fun q hq=>by rw[Ps,aX hq],yK h.sh hs ak hS2 hw0⟩
  . exact h.sx.same (f4.trans g4) (f5.trans g5) (f6.trans g6) (f7.trans g7) (by rw[f2,g2];exact zr _) (by omega)
  . intro q u hu
    rw[Ps] at hu
    split at hu
    . obtain rfl:=zj hu
      exact Hf (by omega) (by omega) (by omega)
    . exact (h.tx q u hu).mono (by omega)
  . intro q u hu
    rw[Ps] at hu;rw[f3]
    split at hu
    . obtain rfl:=zj hu
      exact zr _
    . exact Nat.le_succ_of_le (h.ti q u hu)
  . intro q u hu
    rw[f8,g8] at hu;obtain⟨v,hv,hx⟩:=h.cx q u hu;refine⟨v,?_,hx⟩;rw[Ps,aX (by rintro rfl;rw[hcn] at hu;cases hu)];exact hv
 split
 . obtain⟨k1,k2⟩:=E D.tick h.sh.tick rfl rfl rfl rfl rfl rfl rfl rfl rfl rfl (by show D.count<=D.count+1;omega) (by show D.count+1<=_;omega)
   exact⟨_,rfl,k1,k2⟩
 . rw[aV hck.2]
   obtain⟨e1,e2,e3,e4,e5,e6,e7,e8,e9,e10⟩:=MP D.tick (D.word 0);have U2:(D.tick.bT (D.word 0)).count=D.count+1+1:=e10;obtain⟨k1,k2⟩:=E (D.tick.bT (D.word 0)) (h.sh.tick.bT hck.1) (CU h.sh.tick _) e1 e2 e3 e4 e5 e6 e7 e8 e9 (by omega) (by omega);exact⟨_,rfl,k1,k2⟩
theorem WF.tick (h:WF N L n D):WF N L n D.tick:=⟨h.sh.tick,⟨h.sx.so,h.sx.lo,h.sx.cu,h.sx.cn,h.sx.cb⟩,h.tx,h.ti,h.cx⟩
theorem WF.mono {n':Nat} (h:WF N L n D) (hn:n<=n'):WF N L n' D:=⟨h.sh.mono hn,⟨h.sx.so,h.sx.lo,h.sx.cu,h.sx.cn,eP h.sx.cb hn⟩,fun s t ht=>(h.tx s t ht).mono hn,h.ti,h.cx⟩
end
end Go.Proofs.YthicolbbmjfkfaaGreat.Em.Cw
