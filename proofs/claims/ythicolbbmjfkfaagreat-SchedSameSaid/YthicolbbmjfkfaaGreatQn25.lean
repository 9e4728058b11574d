import Derived.Test.YthicolbbmjfkfaaGreatQn17
set_option linter.unusedVariables false
set_option linter.unusedSimpArgs false
set_option maxRecDepth 100000
set_option maxHeartbeats 1600000
namespace Go.Proofs.YthicolbbmjfkfaaGreat.Em
open Go.ChangeShapes Go.WideShapes Go.ChangeAt Go.RowKit En
def PS (w E:World):Prop:=∀ (g:Nat) (cs:Array Value),w.heap[g]? =some (Obj.cells cs 152)->E.heap[g]? =w.heap[g]?
theorem PS.trans {w Y w2:World} (h:PS w Y) (k:PS Y w2):PS w w2:=fun g cs hg=>(k g cs ((h g cs hg).trans hg)).trans (h g cs hg)
theorem PS.below {w E:World} (h:Below w.heap.size w E):PS w E:=fun g cs hg=>h.block g (fA hg)
theorem PS.grown {w E : World} {ob : Option Nat} (h : w.grownBy E ob) (ht : ∀ (g : Nat), ob = some g -> ∃ (cs : Array Value) (T : TypeId), w.heap[g]? = some (Obj.cells cs T) ∧ T ≠ 152) : PS w E := fun g cs hg => h.block g (fA hg) (by
  intro e
  obtain⟨cs',T,h1,h2⟩:=ht g e.symm
  rw[hg] at h1
  simp only[Option.some.injEq,Obj.cells.injEq] at h1
  exact h2 h1.2.1.symm)
theorem PS.but {w E : World} {b : Nat} {cs : Array Value} {T : TypeId} (h : But b w E) (hb : w.heap[b]? = some (.cells cs T)) (hT : T ≠ 152) : PS w E := fun g cs' hg => h.block g (by
  rintro rfl
  rw[hb] at hg
  simp only[Option.some.injEq,Obj.cells.injEq] at hg
  exact hT hg.2.1)
theorem GZ {w E:World} {base:Nat} {v:Value} {n:Nat} {xs:List Value} (h:w.ownsRow base 152 2 v n xs) (hp:PS w E):E.ownsRow base 152 2 v n xs:=by
 rcases h.2 with ⟨e1,e2⟩|⟨g,cap',cur,hv,hb',hg,hx1,hx2,hx3,hx4⟩
 . exact⟨h.1,.inl ⟨e1,e2⟩⟩
 . exact⟨h.1,.inr ⟨g,cap',cur,hv,hb',(hp g _ hg).trans hg,hx1,hx2,hx3,hx4⟩⟩
def G5 (base:Nat) (w:World):List Ev->List Value->Prop
 |[],xs=>xs=[]
 |e::l,xs=>∃ vp ys,xs=ng e vp++ys∧w.ownsRow base 152 2 vp e.res.aO.length (bJ e.res.aO)∧G5 base w l ys
theorem G5.ps {base:Nat} {w E:World} (hp:PS w E):∀ {l:List Ev} {xs:List Value},G5 base w l xs->G5 base E l xs
 |[],_,h=>h
 |_::_,_,⟨vp,ys,h1,h2,h3⟩=>⟨vp,ys,h1,GZ h2 hp,G5.ps hp h3⟩
theorem G5.snoc {base:Nat} {w:World} {e:Ev} {vp:Value} (hp:w.ownsRow base 152 2 vp e.res.aO.length (bJ e.res.aO)):∀ {l:List Ev} {xs:List Value},G5 base w l xs->G5 base w (l++[e]) (xs++ng e vp)
 |[],xs,h=>by
  have h0:xs=[]:=h;subst h0;exact⟨vp,[],by simp,hp,rfl⟩
 |_::_,_,⟨v,ys,h1,h2,h3⟩=>⟨v,ys++ng e vp,by rw[h1,List.append_assoc],h2,G5.snoc hp h3⟩
theorem rC.at {L:dE} {w:World}:∀ {l:List Ev} {xs:List Value},rC L w l xs->∀ {k:Nat} {e:Ev},l[k]? =some e->∃ vp,kW L w vp (bJ e.res.aO)∧∀ j,j<12->xs[k*12+j]? =(ng e vp)[j]?
 |[],_,_,_,_,h=>by cases h
 |e'::l,xs,⟨vp,ys,h1,h2,h3⟩,0,e,h=>by
  obtain rfl:e'=e:=by simpa using h
  refine⟨vp,h2,fun j hj=>?_⟩;rw[h1,Nat.zero_mul,Nat.zero_add,List.getElem?_append_left (by exact hj)]
 |e'::l,xs,⟨vp,ys,h1,h2,h3⟩,k+1,e,h=>by
  obtain⟨vq,g1,g2⟩:=rC.at h3 (k:=k) (e:=e) (by simpa using h);refine⟨vq,g1,fun j hj=>?_⟩;rw[h1,Qx (by show 12<=_;omega),show (k+1)*12+j - (ng e' vp).length=k*12+j by show _ - 12=_;omega];exact g2 j hj
theorem Sc:(Tryz.prog.info? 62).map (fun i=>(i.zero,i.size,i.bytes))=some (some (.agg #[I 0,I 0,zu 0,I 0,I 0,I 0,I 0,I 0,I 0,.slice none 0 0,I 0,I 0]),12,112):=by kernel_rfl
theorem PU {w:World} {base base':Nat} {e:TypeId} {size:Nat} {v:Value} {n:Nat} {xs:List Value} (h:w.ownsRow base e size v n xs) (hb:base'<=base):w.ownsRow base' e size v n xs:=by
 rcases h.2 with ⟨e1,e2⟩|⟨g,cap',cur,hv,hb',hg,hx⟩
 . exact⟨h.1,.inl ⟨e1,e2⟩⟩
 . exact⟨h.1,.inr ⟨g,cap',cur,hv,gy hb hb',hg,hx⟩⟩
theorem MS {w:World} {base:Nat} {e:TypeId} {size:Nat} {v:Value} {n:Nat} {xs:List Value} (h:w.ownsRow base e size v n xs) (hn:0<n):∃ g cap,v=.slice (some (J g 0)) n cap∧∃ cur,w.heap[g]? =some (.cells cur e):=by
 rcases h.2 with ⟨_,h0⟩|⟨g,cap,cur,hv,hb,hg,hnc,hcm,_⟩
 . omega
 . exact⟨g,cap,hv,cur,hg⟩
theorem ES {A:au} {D:St} {w:World} (hR:aC A D w) (hn:D.aT.length<100000) (hp:∀ e∈D.aT,e.res.aO.length<=1000000):
 zk 15 #[R A.H 0] w fun e E=>∃ v cs,e=.returned v∧E.ownsRow w.heap.size 62 12 v D.aT.length cs∧G5 w.heap.size E D.aT cs∧Below w.heap.size w E:=by
 obtain⟨ii,hii,hz0,hz1,hz2⟩:=info_parts Sc;have e24:w.cell? (J A.H 24)=some A.jF:=hR.df 24 rfl;obtain⟨ta,tc,hv,_⟩:=Ow.bN (hR.mem.all .aT).1;rw[hv] at e24;obtain⟨n,hnn⟩:∃ n,n=D.aT.length:=⟨_,rfl⟩
 rw[<-hnn] at hv e24 hn ⊢;have H0:=zH (zA hR (zA hn (zA hp (zA hv hnn))));clear hR hn hp hv hnn;go_enter Tryz.func15,Tryz.ntmps15;go_wp2
 go_loopw [3,11] (fun l i wr=>∃ (k:Nat) (cs:List Value),i=I k∧k<=n∧wr.ownsRow w.heap.size 62 12 l k cs∧G5 w.heap.size wr (D.aT.take k) cs∧Below w.heap.size w wr) (fun _ i _=>n - (intOf i).toNat)
 case atStart=>exact⟨0,[],rfl,zz _,World.ownsRow_nil _ _ _ _,rfl,Below.refl _ _⟩
 case round=>
  obtain⟨k,cs,rfl,hkn,aU,hev,hb⟩:=hrel;obtain⟨la,lc,rfl,aaa,aab,_⟩:=Ow.bN aU;obtain⟨hR,hn,hp,hv,hnn⟩:=H0.out
  by_cases hlt:k<n
  . obtain⟨ev,Sd⟩:∃ ev,D.aT[k]? =some ev:=⟨_,zx (by omega)⟩
    have hr:=hR.below hb;have ht:wr.ownsRow 0 62 12 A.jF D.aT.length A.gL:=(hr.mem.all .aT).1;rw[<-hnn] at ht;obtain⟨gt,tc',hv',_⟩:=MS ht (by omega);rw[hv] at hv';simp only[Value.slice.injEq] at hv';obtain⟨rfl,_,rfl⟩:=hv';obtain⟨vp,hpr,hcs⟩:=rC.at hr.ev Sd;obtain⟨pa,pn,pc,rfl⟩:=uP hpr.1;have hpn:ev.res.aO.length=pn:=by
     obtain⟨_,_,_,e0,h1,_⟩:=hpr.1;simp only[Value.slice.injEq] at e0;rw[jZ] at h1;omega
    have hpl:=hp ev (List.mem_of_getElem? Sd);rw[hv] at ht;have hX:∀ j v,j<12->(ng ev (.slice pa pn pc))[j]? =some v->wr.cell? ⟨gt,k*12+j,none⟩=some v:=fun j v hj hj2=>by
     rw[ht.cellAt (k*12+j) (by omega),hcs j hj];exact hj2
    have X0:=hX 0 _ (by omega) rfl;rw[Nat.add_zero] at X0;have X1:=hX 1 _ (by omega) rfl;have X2:=hX 2 _ (by omega) rfl;have X3:=hX 3 _ (by omega) rfl;have X4:=hX 4 _ (by omega) rfl;have X5:=hX 5 _ (by omega) rfl;have X6:=hX 6 _ (by omega) rfl;have X7:=hX 7 _ (by omega) rfl;have X8:=hX 8 _ (by omega) rfl;have X9:=hX 9 _ (by omega) rfl;have X10:=hX 10 _ (by omega) rfl;have X11:=hX 11 _ (by omega) rfl;have HC:Hid (∀ Y,Below wr.heap.size wr Y->zk 53 #[.agg #[I ev.res.e,I ev.res.value,.slice pa pn pc,I ev.res.over,I ev.res.aQ]] Y fun e E=>∃ qa qc,e=.returned (.agg #[I ev.res.e,I ev.res.value,.slice qa pn qc,I ev.res.over,I ev.res.aQ])∧E.ownsRow Y.heap.size 152 2 (.slice qa pn qc) pn (bJ ev.res.aO)∧Below Y.heap.size Y E):=fun Y hb1=>rX Y _ _ _ _ pa pn pc ev.res.aO (dS.row (hpr.1.grow (Grow.below hb1))) hpn (by omega)
    have b0:((k:Int)<(n:Int))=True:=by simp;omega
    have b1:(k:Int)<(n:Int):=by omega
    have b2:(0:Int)<=(k:Int):=by omega
    have n3:IntKind.i64.wrap ((k:Int)+1)=(k:Int)+1:=by rw[jG];omega
    have HX:=zH (zA aU (zA hev (zA hb (zA Sd (zA hlt (zA hpn (zA hn hnn)))))));clear aU hev hb Sd hlt hpn hn hnn hR hp hv hr ht hpr hcs hpl hX hkn;have LA:Hid (∀ Y,Y=wr.alloc (.cells #[I ev.kind,I ev.t,zu ev.n,I ev.op.kind,I ev.op.F,I ev.op.hi,I ev.op.value,I ev.res.e,I ev.res.value,.slice pa pn pc,I ev.res.over,I ev.res.aQ] 62)->(zT Y wr.heap.size 7 ev.res.e∧zT Y wr.heap.size 8 ev.res.value∧Y.cell? (J wr.heap.size 9)=some (.slice pa pn pc)∧zT Y wr.heap.size 10 ev.res.over∧zT Y wr.heap.size 11 ev.res.aQ)):=by
     rintro Y rfl;have h:=heap_alloc_new wr (.cells #[I ev.kind,I ev.t,zu ev.n,I ev.op.kind,I ev.op.F,I ev.op.hi,I ev.op.value,I ev.res.e,I ev.res.value,.slice pa pn pc,I ev.res.over,I ev.res.aQ] 62);refine⟨?_,?_,?_,?_,?_⟩<;>(rw[cell_of_row _ _ _ _ _ _ h];rfl)
    go_upto_region 5 with fail
    have hb1:Below wr.heap.size wr (wr.alloc (.cells #[I ev.kind,I ev.t,zu ev.n,I ev.op.kind,I ev.op.F,I ev.op.hi,I ev.op.value,I ev.res.e,I ev.res.value,.slice pa pn pc,I ev.res.over,I ev.res.aQ] 62)):=(Below.refl _ _).alloc (zr _) _;have h1:=heap_alloc_new wr (.cells #[I ev.kind,I ev.t,zu ev.n,I ev.op.kind,I ev.op.F,I ev.op.hi,I ev.op.value,I ev.res.e,I ev.res.value,.slice pa pn pc,I ev.res.over,I ev.res.aQ] 62);obtain⟨y7,y8,y9,Np,SQ⟩:=LA.out _ rfl;have Qb:=zH (HC.out _ hb1);have hsz:(wr.alloc (.cells #[I ev.kind,I ev.t,zu ev.n,I ev.op.kind,I ev.op.F,I ev.op.hi,I ev.op.value,I ev.res.e,I ev.res.value,.slice pa pn pc,I ev.res.over,I ev.res.aQ] 62)).heap.size=wr.heap.size+1:=by simp
    have H1:=zH (zA hb1 (zA h1 hsz));clear hb1 h1 HC LA X0 X1 X2 X3 X4 X5 X6 X7 X8 X9 X10 X11 hsz;generalize wr.alloc _=Y at*;go_upto_region 6 with (first|(go_at_call 53;refine Qb.out.mono ?_;rintro e w2 ⟨qa,qc,rfl,q1,q2⟩;have hb2:=H1.out.1.trans (q2.mono H1.out.1.size);have h2:w2.heap[wr.heap.size]? =some (.cells #[I ev.kind,I ev.t,zu ev.n,I ev.op.kind,I ev.op.F,I ev.op.hi,I ev.op.value,I ev.res.e,I ev.res.value,.slice pa pn pc,I ev.res.over,I ev.res.aQ] 62):=(q2.block _ (by rw[H1.out.2.2];omega)).trans H1.out.2.1;have H2:=zH (zA q1 (zA q2 (zA hb2 h2)));have YD:=gM h2;clear q1 q2 hb2 h2)|(refine wpList_store_mid rfl 46 (.tmp 18) (.tmp 17) rfl wr.heap.size 7 #[I ev.res.e,I ev.res.value,.slice qa pn qc,I ev.res.over,I ev.res.aQ] rfl rfl (by intro j hj;have h:=YD (7+j) (by simp at hj ⊢;omega);simpa [Nat.add_assoc] using h) (by kernel_rfl) (by simp[Value.oneCell']) ?_;generalize hws:World.setCells _ _ _ _=w3))
    obtain⟨q1,q2,hb2,h2⟩:=H2.out;have h3:w3.heap[wr.heap.size]? =some (.cells #[I ev.kind,I ev.t,zu ev.n,I ev.op.kind,I ev.op.F,I ev.op.hi,I ev.op.value,I ev.res.e,I ev.res.value,.slice qa pn qc,I ev.res.over,I ev.res.aQ] 62):=by
     rw[<-hws];have g1:=heap_setCell_same h2 7 (I ev.res.e);have g2:=heap_setCell_same g1 8 (I ev.res.value);have g3:=heap_setCell_same g2 9 (.slice qa pn qc);have g4:=heap_setCell_same g3 10 (I ev.res.over);have g5:=heap_setCell_same g4 11 (I ev.res.aQ);exact g5
    have fQ:But wr.heap.size w2 w3:=by rw[<-hws];exact But.setCells _ _ _ _
    obtain⟨aU,hev,hb,Sd,hlt,hpn,hn,hnn⟩:=HX.out;have hsame:∀ b,b<wr.heap.size->w3.heap[b]? =wr.heap[b]? :=fun b hb'=>(fQ.block b (by omega)).trans (hb2.block b hb')
    have hown3:=oC (E:=w3.alloc (.cells #[I ev.kind,I ev.t,zu ev.n,I ev.op.kind,I ev.op.F,I ev.op.hi,I ev.op.value,I ev.res.e,I ev.res.value,.slice qa pn qc,I ev.res.over,I ev.res.aQ] 62)) aU fun g hg=>(heap_alloc_old _ _ (sG (aU.lt g hg).2 (by rw[fQ.size];exact hb2.size))).trans (hsame g (aU.lt g hg).2)
    have YE:PS wr (w3.alloc (.cells #[I ev.kind,I ev.t,zu ev.n,I ev.op.kind,I ev.op.F,I ev.op.hi,I ev.op.value,I ev.res.e,I ev.res.value,.slice qa pn qc,I ev.res.over,I ev.res.aQ] 62)):=((PS.below hb2).trans (PS.but fQ h2 (by decide))).trans (PS.below ((Below.refl _ _).alloc (zr _) _));have ps2:PS w2 (w3.alloc (.cells #[I ev.kind,I ev.t,zu ev.n,I ev.op.kind,I ev.op.F,I ev.op.hi,I ev.op.value,I ev.res.e,I ev.res.value,.slice qa pn qc,I ev.res.over,I ev.res.aQ] 62)):=(PS.but fQ h2 (by decide)).trans (PS.below ((Below.refl _ _).alloc (zr _) _));have hpr:(w3.alloc (.cells #[I ev.kind,I ev.t,zu ev.n,I ev.op.kind,I ev.op.F,I ev.op.hi,I ev.op.value,I ev.res.e,I ev.res.value,.slice qa pn qc,I ev.res.over,I ev.res.aQ] 62)).ownsRow w.heap.size 152 2 (.slice qa pn qc) pn (bJ ev.res.aO):=PU (GZ q1 ps2) (by rw[H1.out.2.2];have:=hb.size;omega);have hb3:Below w.heap.size w (w3.alloc (.cells #[I ev.kind,I ev.t,zu ev.n,I ev.op.kind,I ev.op.F,I ev.op.hi,I ev.op.value,I ev.res.e,I ev.res.value,.slice qa pn qc,I ev.res.over,I ev.res.aQ] 62)):=by
     refine Below.alloc ⟨?_,?_,?_,?_,?_⟩ (by rw[fQ.size];exact gy hb.size hb2.size) _
     . exact fQ.os.trans (hb2.os.trans hb.os)
     . exact fQ.tape.trans (hb2.tape.trans hb.tape)
     . exact fQ.output.trans (hb2.output.trans hb.output)
     . rw[fQ.size];exact gy hb.size hb2.size
     . exact fun b hb'=>(hsame b (sG hb' hb.size)).trans (hb.block b hb')
    have U4:∀ (g:Nat),(Value.slice la k lc).ownBlock=some g->∃ (cs:Array Value) (T:TypeId),(w3.alloc (.cells #[I ev.kind,I ev.t,zu ev.n,I ev.op.kind,I ev.op.F,I ev.op.hi,I ev.op.value,I ev.res.e,I ev.res.value,.slice qa pn qc,I ev.res.over,I ev.res.aQ] 62)).heap[g]? =some (Obj.cells cs T)∧T≠152:=fun g hg=>by
     rcases hown3.2 with ⟨e0,_⟩|⟨g',cap,cur,hv,_,hgc,_⟩
     . simp only[Value.slice.injEq] at e0
       rw[e0.1] at hg;cases hg
     . rw[hv] at hg
       obtain rfl:g'=g:=by simpa [Value.ownBlock] using hg
       exact⟨cur,_,hgc,by decide⟩
    have HZ:=zH (zA hown3 (zA (hev.ps YE) (zA hpr (zA hb3 (zA U4 (zA Sd (zA hlt (zA hpn hn))))))));have Z0:=(show w3.cell? (J wr.heap.size 0)=some _ by rw[cell_of_row _ _ _ _ _ _ h3];rfl)
    have Z1:=(show w3.cell? (J wr.heap.size 1)=some _ by rw[cell_of_row _ _ _ _ _ _ h3];rfl)
    have Z2:=(show w3.cell? (J wr.heap.size 2)=some _ by rw[cell_of_row _ _ _ _ _ _ h3];rfl)
    have Z3:=(show w3.cell? (J wr.heap.size 3)=some _ by rw[cell_of_row _ _ _ _ _ _ h3];rfl)
    have Z4:=(show w3.cell? (J wr.heap.size 4)=some _ by rw[cell_of_row _ _ _ _ _ _ h3];rfl)
    have Z5:=(show w3.cell? (J wr.heap.size 5)=some _ by rw[cell_of_row _ _ _ _ _ _ h3];rfl)
    have Z6:=(show w3.cell? (J wr.heap.size 6)=some _ by rw[cell_of_row _ _ _ _ _ _ h3];rfl)
    have Z7:=(show w3.cell? (J wr.heap.size 7)=some _ by rw[cell_of_row _ _ _ _ _ _ h3];rfl)
    have Z8:=(show w3.cell? (J wr.heap.size 8)=some _ by rw[cell_of_row _ _ _ _ _ _ h3];rfl)
    have Z9:=(show w3.cell? (J wr.heap.size 9)=some _ by rw[cell_of_row _ _ _ _ _ _ h3];rfl)
    have Z10:=(show w3.cell? (J wr.heap.size 10)=some _ by rw[cell_of_row _ _ _ _ _ _ h3];rfl)
    have Z11:=(show w3.cell? (J wr.heap.size 11)=some _ by rw[cell_of_row _ _ _ _ _ _ h3];rfl)
    clear q1 q2 hb2 h2 h3 fQ aU hev hb Sd hlt hpn hn hnn hsame hown3 YE ps2 hpr hb3 U4 H2 HX H1 Qb hws YD y7 y8 y9 Np SQ;go_wp2_with (refine Ow.eu _ rfl (.tmp 19) (.tmp 21) 52 rfl w.heap.size 62 ii _ 12 112 Tryz.underlying52 hii hz0 hz1 hz2 rfl (by decide) (.slice la k lc) k cs rfl HZ.out.1 (J w3.heap.size 0) 1 1 (by omega) [I ev.kind,I ev.t,zu ev.n,I ev.op.kind,I ev.op.F,I ev.op.hi,I ev.op.value,I ev.res.e,I ev.res.value,.slice qa pn qc,I ev.res.over,I ev.res.aQ] rfl rfl (fun j u hu=>Ow.iw w3 [I ev.kind,I ev.t,zu ev.n,I ev.op.kind,I ev.op.F,I ev.op.hi,I ev.op.value,I ev.res.e,I ev.res.value,.slice qa pn qc,I ev.res.over,I ev.res.aQ] _ w3.heap.size (by simp) j u hu) (by intro u hu;simp at hu;rcases hu with rfl|rfl|rfl|rfl|rfl|rfl|rfl|rfl|rfl|rfl|rfl|rfl<;>rfl) (by have:=HZ.out.2.2.2.2.2.2.1;have:=HZ.out.2.2.2.2.2.2.2.2;unfold maxLen;omega) (by have:=HZ.out.2.2.2.2.2.2.1;have:=HZ.out.2.2.2.2.2.2.2.2;omega) (HZ.out.2.2.2.1.size) ?_;intro v' w4 q1 q2 q3;obtain⟨av,cv,rfl,_⟩:=Ow.bN q1;have HY:=zH (zA q1 q2);clear q1 q2 q3)
    go_roundw
    case rel=>
     obtain⟨z1,z2,z3,z4,z5,z6,z7,z8,z9⟩:=HZ.out;obtain⟨q1,q2⟩:=HY.out;have YF:=PS.grown q2 z5;refine⟨k+1,cs++[I ev.kind,I ev.t,zu ev.n,I ev.op.kind,I ev.op.F,I ev.op.hi,I ev.op.value,I ev.res.e,I ev.res.value,.slice qa pn qc,I ev.res.over,I ev.res.aQ],rfl,z7,q1,?_,⟨q2.os.trans z4.os,q2.tape.trans z4.tape,q2.output.trans z4.output,gy z4.size q2.size,fun b hb=>(q2.block b (sG hb z4.size) (fun e=>?_)).trans (z4.block b hb)⟩⟩
     . rw[List.take_add_one,z6]
       have h9:G5 w.heap.size w4 (D.aT.take k++[ev]) (cs++ng ev (.slice qa pn qc)):=(z2.ps YF).snoc (by rw[z8];exact GZ z3 YF);exact h9
     . have:=(z1.lt b e.symm).1
       omega
    case measure=>have:=HZ.out.2.2.2.2.2.2.1;simp[intOf];omega
  . obtain rfl:k=n:=by omega
    have b0:((k:Int)<(k:Int))=False:=by simp
    have HX:=zH (zA aU (zA hev (zA hb hnn)));clear aU hev hb hnn hlt hkn hn hp hv hR;go_wp2;go_ret;obtain⟨aU,hev,hb,hnn⟩:=HX.out;rw[hnn,List.take_length] at hev;exact⟨_,cs,rfl,aU,hev,hb⟩
end Go.Proofs.YthicolbbmjfkfaaGreat.Em
namespace Go.Proofs.YthicolbbmjfkfaaGreat.bR
open Go.ChangeShapes Go.WideShapes Go.ChangeAt Go.RowKit
def J7 (a b:En):Bool:=a.k==b.k&&(a.s==b.s&&(a.lv==b.lv&&(a.ok==b.ok&&(a.oy==b.oy&&(a.oh==b.oh&&a.ov==b.ov)))))
theorem um (a b:En):J7 a b=true↔a=b:=by
 unfold J7;simp only[il,beq_iff_eq];constructor
 . rintro ⟨h1,h2,h3,h4,h5,h6,h7⟩;exact Lp h1 h2 h3 h4 h5 h6 h7
 . rintro rfl;simp
theorem U5 {a b:Bool} (h:a=b):Ending.returned (.bool a)=.returned (.bool b):=by rw[h]
theorem Xw (e:En):(0<=r2 e∧r2 e<256)∧(0<=r3 e∧r3 e<256)∧(0<=r4 e∧r4 e<256):=by
 refine⟨?_,?_,?_⟩
 . unfold r2;split<;>(try split)<;>omega
 . unfold r3;split<;>omega
 . unfold r4;split<;>(try split)<;>omega
set_option maxHeartbeats 1000000 in
theorem MU (e x:En) (w:World) (hx:qM ((e.k - 1) % 256) (e.s % 256) (r2 e) (r3 e) (r4 e)=x):
 Calls Tryz.prog 23 #[lN e] w fun z E=>z=.returned (.bool (J7 x e&&e.k !=5))∧Below w.heap.size w E:=by
 have hr:=Xw e;have HB:=Lib.hid (fun w=>FV e w);have HO:=Lib.hid (fun g w h0 h1 h2 h3 h4=>Ll g 0 5 5 (by omega) (by omega) ((e.k - 1) % 256) (e.s % 256) (r2 e) (r3 e) (r4 e) (by omega) (by omega) (by omega) (by omega) hr.1.1 hr.1.2 hr.2.1.1 hr.2.1.2 hr.2.2.1 hr.2.2.2 w h0 h1 h2 h3 h4);rw[hx] at HO;clear hx hr;obtain⟨k,s,lv,ok,oy,oh,ov⟩:=e;obtain⟨xk,xs,Td,Te,Tf,Tg,Ti⟩:=x;go_enter Tryz.func23,Tryz.ntmps23;go_wp2_with fail;have f1:=Qg.new w ⟨k,s,lv,ok,oy,oh,ov⟩ 71 _ rfl;simp only[cellsE] at f1;have hb1:Below w.heap.size w (w.alloc (.cells #[.int .i64 k,.int .i64 s,.int .i64 lv,.int .i64 ok,.int .i64 oy,.int .i64 oh,.int .i64 ov] 71)):=bY _ _;generalize w.alloc (.cells #[.int .i64 k,.int .i64 s,.int .i64 lv,.int .i64 ok,.int .i64 oy,.int .i64 oh,.int .i64 ov] 71)=A1 at*;generalize hg1:w.heap.size=g1 at*;have HG:=Lib.hid hg1;clear hg1;refine (HB.out _).mono ?_;rintro z Y ⟨g,rfl,hg,hg',hq,b0,b1,b2,b3,b4⟩;have f2:=f1.below hq;have hb2:=hb1.trans (hq.mono (Nat.le_of_lt f1.1));go_wp2_with fail;refine (HO.out g _ b0 b1 b2 b3 b4).mono ?_;rintro z w2 ⟨rfl,hq2⟩;have f3:=f2.below hq2;have hb3:=hb2.trans (hq2.mono (Nat.le_of_lt f2.1));have l:=f3.1;obtain⟨x0,x1,x2,x3,x4,x5,x6⟩:=f3.cells;clear f1 f2 f3 hb1 hb2 hq hq2 hg hg' b0 b1 b2 b3 b4 HB HO;go_wp2_with fail
 all_goals
  go_ret;refine⟨U5 ?_,by rw[HG.out];exact hb3.alloc (Nat.le_of_lt l) _⟩;simp[J7, *]
theorem IY (e:En) (w:World):
 ∃ b:Bool,(b=true↔V e)∧Calls Tryz.prog 23 #[lN e] w fun z E=>z=.returned (.bool b)∧Below w.heap.size w E:=by
 refine⟨_,?_,MU e _ w rfl⟩;simp only[il,um,bne_iff_ne];constructor
 . rintro ⟨h1,h2⟩;exact V.Rb h2 h1
 . intro h
   obtain⟨h1,h2,h3,h4,h5⟩:=h.ref;refine⟨by rw[h1,h2,h3,h4,h5];exact h.again,?_⟩
   rcases h with ⟨_,_,h|h|h|h⟩<;>omega
def ET (w:World) (z:Ending) (E:World):Prop:=z=.returned (.tuple #[.slice none 0 0,.bool false])∧Below w.heap.size w E
set_option maxHeartbeats 1000000 in
theorem Cm (k s lv ok oy oh ov:Int) (Z:(k==2)=false) (hz:[wrap64 (k - 1),s,lv,ok,lv,oy,0].all vM=false) (w:World):
 Calls Tryz.prog 62 #[lN ⟨k,s,lv,ok,oy,oh,ov⟩] w (ET w):=by
 have HL:=Lib.hid (fun g W h=>pJ g 0 7 [wrap64 (k - 1),s,lv,ok,lv,oy,0] (by simp) W h);have HZ:=Lib.hid hz;clear hz;go_enter Tryz.func62,Tryz.ntmps62;go_wp2_with fail
 go_quiet (fail)
 go_wp2_with fail;refine (HL.out _ _ ?_).mono ?_
 . intro i hi
   match i,hi with
   |0,_=>go_simp
   |1,_=>go_simp
   |2,_=>go_simp
   |3,_=>go_simp
   |4,_=>go_simp
   |5,_=>go_simp
   |6,_=>go_simp
 rintro z E ⟨rfl,rfl⟩;rw[HZ.out];go_wp2_with fail
 go_ret2
 exact⟨rfl,by (repeat (first|(with_reducible exact Below.refl _ _)|((with_reducible refine Below.setCell ?_ ?_ _);rotate_left;focus (first|(simp;done)|(simp;omega)))|(with_reducible refine below_drewN ?_ _)|(with_reducible refine Below.drew ?_)|((with_reducible refine Below.alloc ?_ ?_ _);rotate_left;focus (first|(simp;done)|(simp;omega)))))⟩
set_option maxHeartbeats 1000000 in
theorem G6 (s lv ok oy oh ov:Int) (ho:(ok==5)=false) (hz:[1,s,lv,ok,wrap64 (ok*8),oy,ov].all vM=false) (w:World):
 Calls Tryz.prog 62 #[lN ⟨2,s,lv,ok,oy,oh,ov⟩] w (ET w):=by
 have HL:=Lib.hid (fun g W h=>pJ g 0 7 [1,s,lv,ok,wrap64 (ok*8),oy,ov] (by simp) W h);have HZ:=Lib.hid hz;clear hz;go_enter Tryz.func62,Tryz.ntmps62;go_wp2_with fail
 go_quiet (fail)
 go_wp2_with fail;refine (HL.out _ _ ?_).mono ?_
 . intro i hi
   match i,hi with
   |0,_=>go_simp
   |1,_=>go_simp
   |2,_=>go_simp
   |3,_=>go_simp
   |4,_=>go_simp
   |5,_=>go_simp
   |6,_=>go_simp
 rintro z E ⟨rfl,rfl⟩;rw[HZ.out];go_wp2_with fail
 go_ret2
 exact⟨rfl,by (repeat (first|(with_reducible exact Below.refl _ _)|((with_reducible refine Below.setCell ?_ ?_ _);rotate_left;focus (first|(simp;done)|(simp;omega)))|(with_reducible refine below_drewN ?_ _)|(with_reducible refine Below.drew ?_)|((with_reducible refine Below.alloc ?_ ?_ _);rotate_left;focus (first|(simp;done)|(simp;omega)))))⟩
set_option maxHeartbeats 1000000 in
theorem EU (s lv oy oh ov:Int) (hz:[1,s,lv,5,40,oy,oh].all vM=false) (w:World):
 Calls Tryz.prog 62 #[lN ⟨2,s,lv,5,oy,oh,ov⟩] w (ET w):=by
 have HL:=Lib.hid (fun g W h=>pJ g 0 7 [1,s,lv,5,40,oy,oh] (by simp) W h);have HZ:=Lib.hid hz;clear hz;go_enter Tryz.func62,Tryz.ntmps62;go_wp2_with fail
 go_quiet (fail)
 go_wp2_with fail;refine (HL.out _ _ ?_).mono ?_
 . intro i hi
   match i,hi with
   |0,_=>go_simp
   |1,_=>go_simp
   |2,_=>go_simp
   |3,_=>go_simp
   |4,_=>go_simp
   |5,_=>go_simp
   |6,_=>go_simp
 rintro z E ⟨rfl,rfl⟩;rw[HZ.out];go_wp2_with fail
 go_ret2
 exact⟨rfl,by (repeat (first|(with_reducible exact Below.refl _ _)|((with_reducible refine Below.setCell ?_ ?_ _);rotate_left;focus (first|(simp;done)|(simp;omega)))|(with_reducible refine below_drewN ?_ _)|(with_reducible refine Below.drew ?_)|((with_reducible refine Below.alloc ?_ ?_ _);rotate_left;focus (first|(simp;done)|(simp;omega)))))⟩
theorem Cn (a0 a1 a2 a3 a4 a5 a6 b0 b1 b2 b3 b4 b5 b6:Int) (w:World):
 (binOp .eql 71 (.agg #[.int .i64 a0,.int .i64 a1,.int .i64 a2,.int .i64 a3,.int .i64 a4,.int .i64 a5,.int .i64 a6]) (.agg #[.int .i64 b0,.int .i64 b1,.int .i64 b2,.int .i64 b3,.int .i64 b4,.int .i64 b5,.int .i64 b6])).run Tryz.prog w=.ok (.bool (J7 ⟨a0,a1,a2,a3,a4,a5,a6⟩ ⟨b0,b1,b2,b3,b4,b5,b6⟩)) w:=by
 unfold J7;go_simp
 repeat' split
 all_goals simp[*]
theorem MV {w Y:World} {g:Nat} {a0 a1 a2 a3 a4 a5 a6:Int} (h:g<w.heap.size∧w.cell? ⟨g,0,none⟩=some (.int .i64 a0)∧w.cell? ⟨g,1,none⟩=some (.int .i64 a1)∧w.cell? ⟨g,2,none⟩=some (.int .i64 a2)∧w.cell? ⟨g,3,none⟩=some (.int .i64 a3)∧w.cell? ⟨g,4,none⟩=some (.int .i64 a4)∧w.cell? ⟨g,5,none⟩=some (.int .i64 a5)∧w.cell? ⟨g,6,none⟩=some (.int .i64 a6)) (hq:Below w.heap.size w Y):g<Y.heap.size∧Y.cell? ⟨g,0,none⟩=some (.int .i64 a0)∧Y.cell? ⟨g,1,none⟩=some (.int .i64 a1)∧Y.cell? ⟨g,2,none⟩=some (.int .i64 a2)∧Y.cell? ⟨g,3,none⟩=some (.int .i64 a3)∧Y.cell? ⟨g,4,none⟩=some (.int .i64 a4)∧Y.cell? ⟨g,5,none⟩=some (.int .i64 a5)∧Y.cell? ⟨g,6,none⟩=some (.int .i64 a6):=by
 obtain⟨h,h0,h1,h2,h3,h4,h5,h6⟩:=h;exact⟨sG h hq.size,(hq.cell (p:=⟨g,0,none⟩) h).trans h0,(hq.cell (p:=⟨g,1,none⟩) h).trans h1,(hq.cell (p:=⟨g,2,none⟩) h).trans h2,(hq.cell (p:=⟨g,3,none⟩) h).trans h3,(hq.cell (p:=⟨g,4,none⟩) h).trans h4,(hq.cell (p:=⟨g,5,none⟩) h).trans h5,(hq.cell (p:=⟨g,6,none⟩) h).trans h6⟩
def sF (w:World) (b:Bool) (b0 b1 b2 b3 b4:Int) (z:Ending) (E:World):Prop:=
 ∃ g,z=.returned (.tuple #[.slice (some ⟨g,0,none⟩) 5 5,.bool b])∧w.heap.size<=g∧g<E.heap.size∧Below w.heap.size w E∧
  E.cell? ⟨g,0,none⟩=some (.int .u8 b0)∧E.cell? ⟨g,1,none⟩=some (.int .u8 b1)∧E.cell? ⟨g,2,none⟩=some (.int .u8 b2)∧E.cell? ⟨g,3,none⟩=some (.int .u8 b3)∧E.cell? ⟨g,4,none⟩=some (.int .u8 b4)
set_option maxHeartbeats 2000000 in
theorem rM (k s lv ok oy oh ov:Int) (Z:(k==2)=false) (h5:(k !=5)=true) (k1:1<=k) (k2:k<=256) (s1:0<=s) (s2:s<=255) (l1:0<=lv) (l2:lv<=255) (o1:0<=ok) (o2:ok<=255) (y1:0<=oy) (y2:oy<=255) (w:World):
 Calls Tryz.prog 62 #[lN ⟨k,s,lv,ok,oy,oh,ov⟩] w (sF w (J7 (qM (k - 1) (s) (lv) (oy) (0)) ⟨k,s,lv,ok,oy,oh,ov⟩) (k - 1) (s) (lv) (oy) (0)):=by
 have HL:=Lib.hid (fun g W h=>pJ g 0 7 [k - 1,s,lv,ok,lv,oy,0] (by simp) W h);have HZ:Hid ([k - 1,s,lv,ok,lv,oy,0].all vM=true):=by simp[RowKit.Hid,vM];omega
 have HE:=Lib.hid (fun W h0 h1 h2 h3 h4=>qN (w.heap.size+1+1) 0 5 5 (by omega) (k - 1) (s) (lv) (oy) (0) (by omega) (by omega) (by omega) (by omega) (by omega) (by omega) (by omega) (by omega) (by omega) (by omega) W h0 h1 h2 h3 h4);generalize (qM (k - 1) (s) (lv) (oy) (0))=X at*;obtain⟨xk,xs,Td,Te,Tf,Tg,Ti⟩:=X;go_enter Tryz.func62,Tryz.ntmps62;go_wp2_with fail
 go_quiet (fail)
 go_wp2_with fail;refine (HL.out _ _ ?_).mono ?_
 . intro i hi
   match i,hi with
   |0,_=>go_simp
   |1,_=>go_simp
   |2,_=>go_simp
   |3,_=>go_simp
   |4,_=>go_simp
   |5,_=>go_simp
   |6,_=>go_simp
 rintro z E ⟨rfl,rfl⟩;rw[HZ.out];go_wp2_with fail;obtain⟨W,hW,fe,fb,hb⟩:∃ W,W=(((w.alloc (.cells #[.int .i64 k,.int .i64 s,.int .i64 lv,.int .i64 ok,.int .i64 oy,.int .i64 oh,.int .i64 ov] 71)).drewN nq).alloc (.cells #[.int .i64 (k - 1),.int .i64 s,.int .i64 lv,.int .i64 ok,.int .i64 lv,.int .i64 oy,.int .i64 0] 3)).alloc (.cells #[.int .u8 (k - 1),.int .u8 s,.int .u8 lv,.int .u8 oy,.int .u8 0] 5)∧
  (w.heap.size<W.heap.size∧W.cell? ⟨w.heap.size,0,none⟩=some (.int .i64 k)∧W.cell? ⟨w.heap.size,1,none⟩=some (.int .i64 s)∧W.cell? ⟨w.heap.size,2,none⟩=some (.int .i64 lv)∧W.cell? ⟨w.heap.size,3,none⟩=some (.int .i64 ok)∧W.cell? ⟨w.heap.size,4,none⟩=some (.int .i64 oy)∧W.cell? ⟨w.heap.size,5,none⟩=some (.int .i64 oh)∧W.cell? ⟨w.heap.size,6,none⟩=some (.int .i64 ov))∧
  (w.heap.size+1+1<W.heap.size∧W.cell? ⟨w.heap.size+1+1,0,none⟩=some (.int .u8 (k - 1))∧W.cell? ⟨w.heap.size+1+1,1,none⟩=some (.int .u8 s)∧W.cell? ⟨w.heap.size+1+1,2,none⟩=some (.int .u8 lv)∧W.cell? ⟨w.heap.size+1+1,3,none⟩=some (.int .u8 oy)∧W.cell? ⟨w.heap.size+1+1,4,none⟩=some (.int .u8 0))∧Below w.heap.size w W:=
  ⟨_,rfl,⟨by simp;omega,by go_simp,by go_simp,by go_simp,by go_simp,by go_simp,by go_simp,by go_simp⟩,⟨by simp,by go_simp,by go_simp,by go_simp,by go_simp,by go_simp⟩,by (repeat (first|(with_reducible exact Below.refl _ _)|((with_reducible refine Below.setCell ?_ ?_ _);rotate_left;focus (first|(simp;done)|(simp;omega)))|(with_reducible refine below_drewN ?_ _)|(with_reducible refine Below.drew ?_)|((with_reducible refine Below.alloc ?_ ?_ _);rotate_left;focus (first|(simp;done)|(simp;omega)))))⟩
 rw[<-hW];clear hW HL HZ;obtain⟨l0,x0,x1,x2,x3,x4,x5,x6⟩:=fe;have hcmp:=Cn xk xs Td Te Tf Tg Ti k s lv ok oy oh ov
 go_region_held3 (fun E=>w.heap.size<E.heap.size∧E.cell? ⟨w.heap.size,0,none⟩=some (.int .i64 k)∧E.cell? ⟨w.heap.size,1,none⟩=some (.int .i64 s)∧E.cell? ⟨w.heap.size,2,none⟩=some (.int .i64 lv)∧E.cell? ⟨w.heap.size,3,none⟩=some (.int .i64 ok)∧E.cell? ⟨w.heap.size,4,none⟩=some (.int .i64 oy)∧E.cell? ⟨w.heap.size,5,none⟩=some (.int .i64 oh)∧E.cell? ⟨w.heap.size,6,none⟩=some (.int .i64 ov)) (first|exact⟨l0,x0,x1,x2,x3,x4,x5,x6⟩|exact MV (by assumption) (by assumption)|go_keep) ((go_at_call 89;refine (HE.out W.drew fb.2.1 fb.2.2.1 fb.2.2.2.1 fb.2.2.2.2.1 fb.2.2.2.2.2).mono ?_;rintro z Y ⟨rfl,hq⟩))
 obtain⟨m0,m1,m2,m3,m4,m5⟩:=fb;go_wp2
 go_ret2
 exact⟨w.heap.size+1+1,rfl,by omega,sG m0 hq.size,hb.drew.trans (hq.mono hb.size),(hq.cell (p:=⟨w.heap.size+1+1,0,none⟩) m0).trans m1,(hq.cell (p:=⟨w.heap.size+1+1,1,none⟩) m0).trans m2,(hq.cell (p:=⟨w.heap.size+1+1,2,none⟩) m0).trans m3,(hq.cell (p:=⟨w.heap.size+1+1,3,none⟩) m0).trans m4,(hq.cell (p:=⟨w.heap.size+1+1,4,none⟩) m0).trans m5⟩
set_option maxHeartbeats 2000000 in
theorem vU (s lv ok oy oh ov:Int) (ho:(ok==5)=false) (s1:0<=s) (s2:s<=255) (l1:0<=lv) (l2:lv<=255) (o1:0<=ok) (o2:ok*8<=255) (y1:0<=oy) (y2:oy<=255) (v1:0<=ov) (v2:ov<=255) (w:World):
 Calls Tryz.prog 62 #[lN ⟨2,s,lv,ok,oy,oh,ov⟩] w (sF w (J7 (qM (1) (s) (ok*8) (oy) (ov)) ⟨2,s,lv,ok,oy,oh,ov⟩) (1) (s) (ok*8) (oy) (ov)):=by
 have HL:=Lib.hid (fun g W h=>pJ g 0 7 [1,s,lv,ok,ok*8,oy,ov] (by simp) W h);have HZ:Hid ([1,s,lv,ok,ok*8,oy,ov].all vM=true):=by simp[RowKit.Hid,vM];omega
 have HE:=Lib.hid (fun W h0 h1 h2 h3 h4=>qN (w.heap.size+1+1) 0 5 5 (by omega) (1) (s) (ok*8) (oy) (ov) (by omega) (by omega) (by omega) (by omega) (by omega) (by omega) (by omega) (by omega) (by omega) (by omega) W h0 h1 h2 h3 h4);generalize (qM (1) (s) (ok*8) (oy) (ov))=X at*;obtain⟨xk,xs,Td,Te,Tf,Tg,Ti⟩:=X;go_enter Tryz.func62,Tryz.ntmps62;go_wp2_with fail
 go_quiet (fail)
 go_wp2_with fail;refine (HL.out _ _ ?_).mono ?_
 . intro i hi
   match i,hi with
   |0,_=>go_simp
   |1,_=>go_simp
   |2,_=>go_simp
   |3,_=>go_simp
   |4,_=>go_simp
   |5,_=>go_simp
   |6,_=>go_simp
 rintro z E ⟨rfl,rfl⟩;rw[HZ.out];go_wp2_with fail;obtain⟨W,hW,fe,fb,hb⟩:∃ W,W=(((w.alloc (.cells #[.int .i64 2,.int .i64 s,.int .i64 lv,.int .i64 ok,.int .i64 oy,.int .i64 oh,.int .i64 ov] 71)).drewN nq).alloc (.cells #[.int .i64 1,.int .i64 s,.int .i64 lv,.int .i64 ok,.int .i64 (ok*8),.int .i64 oy,.int .i64 ov] 3)).alloc (.cells #[.int .u8 1,.int .u8 s,.int .u8 (ok*8),.int .u8 oy,.int .u8 ov] 5)∧
  (w.heap.size<W.heap.size∧W.cell? ⟨w.heap.size,0,none⟩=some (.int .i64 2)∧W.cell? ⟨w.heap.size,1,none⟩=some (.int .i64 s)∧W.cell? ⟨w.heap.size,2,none⟩=some (.int .i64 lv)∧W.cell? ⟨w.heap.size,3,none⟩=some (.int .i64 ok)∧W.cell? ⟨w.heap.size,4,none⟩=some (.int .i64 oy)∧W.cell? ⟨w.heap.size,5,none⟩=some (.int .i64 oh)∧W.cell? ⟨w.heap.size,6,none⟩=some (.int .i64 ov))∧
  (w.heap.size+1+1<W.heap.size∧W.cell? ⟨w.heap.size+1+1,0,none⟩=some (.int .u8 1)∧W.cell? ⟨w.heap.size+1+1,1,none⟩=some (.int .u8 s)∧W.cell? ⟨w.heap.size+1+1,2,none⟩=some (.int .u8 (ok*8))∧W.cell? ⟨w.heap.size+1+1,3,none⟩=some (.int .u8 oy)∧W.cell? ⟨w.heap.size+1+1,4,none⟩=some (.int .u8 ov))∧Below w.heap.size w W:=
  ⟨_,rfl,⟨by simp;omega,by go_simp,by go_simp,by go_simp,by go_simp,by go_simp,by go_simp,by go_simp⟩,⟨by simp,by go_simp,by go_simp,by go_simp,by go_simp,by go_simp⟩,by (repeat (first|(with_reducible exact Below.refl _ _)|((with_reducible refine Below.setCell ?_ ?_ _);rotate_left;focus (first|(simp;done)|(simp;omega)))|(with_reducible refine below_drewN ?_ _)|(with_reducible refine Below.drew ?_)|((with_reducible refine Below.alloc ?_ ?_ _);rotate_left;focus (first|(simp;done)|(simp;omega)))))⟩
 rw[<-hW];clear hW HL HZ;obtain⟨l0,x0,x1,x2,x3,x4,x5,x6⟩:=fe;have hcmp:=Cn xk xs Td Te Tf Tg Ti 2 s lv ok oy oh ov
 go_region_held3 (fun E=>w.heap.size<E.heap.size∧E.cell? ⟨w.heap.size,0,none⟩=some (.int .i64 2)∧E.cell? ⟨w.heap.size,1,none⟩=some (.int .i64 s)∧E.cell? ⟨w.heap.size,2,none⟩=some (.int .i64 lv)∧E.cell? ⟨w.heap.size,3,none⟩=some (.int .i64 ok)∧E.cell? ⟨w.heap.size,4,none⟩=some (.int .i64 oy)∧E.cell? ⟨w.heap.size,5,none⟩=some (.int .i64 oh)∧E.cell? ⟨w.heap.size,6,none⟩=some (.int .i64 ov)) (first|exact⟨l0,x0,x1,x2,x3,x4,x5,x6⟩|exact MV (by assumption) (by assumption)|go_keep) ((go_at_call 89;refine (HE.out W.drew fb.2.1 fb.2.2.1 fb.2.2.2.1 fb.2.2.2.2.1 fb.2.2.2.2.2).mono ?_;rintro z Y ⟨rfl,hq⟩))
 obtain⟨m0,m1,m2,m3,m4,m5⟩:=fb;go_wp2
 go_ret2
 exact⟨w.heap.size+1+1,rfl,by omega,sG m0 hq.size,hb.drew.trans (hq.mono hb.size),(hq.cell (p:=⟨w.heap.size+1+1,0,none⟩) m0).trans m1,(hq.cell (p:=⟨w.heap.size+1+1,1,none⟩) m0).trans m2,(hq.cell (p:=⟨w.heap.size+1+1,2,none⟩) m0).trans m3,(hq.cell (p:=⟨w.heap.size+1+1,3,none⟩) m0).trans m4,(hq.cell (p:=⟨w.heap.size+1+1,4,none⟩) m0).trans m5⟩
set_option maxHeartbeats 2000000 in
theorem uo (s lv oy oh ov:Int) (s1:0<=s) (s2:s<=255) (l1:0<=lv) (l2:lv<=255) (y1:0<=oy) (y2:oy<=255) (h1:0<=oh) (h2:oh<=255) (w:World):
 Calls Tryz.prog 62 #[lN ⟨2,s,lv,5,oy,oh,ov⟩] w (sF w (J7 (qM (1) (s) (40) (oy) (oh)) ⟨2,s,lv,5,oy,oh,ov⟩) (1) (s) (40) (oy) (oh)):=by
 have HL:=Lib.hid (fun g W h=>pJ g 0 7 [1,s,lv,5,40,oy,oh] (by simp) W h);have HZ:Hid ([1,s,lv,5,40,oy,oh].all vM=true):=by simp[RowKit.Hid,vM];omega
 have HE:=Lib.hid (fun W h0 h1 h2 h3 h4=>qN (w.heap.size+1+1) 0 5 5 (by omega) (1) (s) (40) (oy) (oh) (by omega) (by omega) (by omega) (by omega) (by omega) (by omega) (by omega) (by omega) (by omega) (by omega) W h0 h1 h2 h3 h4);generalize (qM (1) (s) (40) (oy) (oh))=X at*;obtain⟨xk,xs,Td,Te,Tf,Tg,Ti⟩:=X;go_enter Tryz.func62,Tryz.ntmps62;go_wp2_with fail
 go_quiet (fail)
 go_wp2_with fail;refine (HL.out _ _ ?_).mono ?_
 . intro i hi
   match i,hi with
   |0,_=>go_simp
   |1,_=>go_simp
   |2,_=>go_simp
   |3,_=>go_simp
   |4,_=>go_simp
   |5,_=>go_simp
   |6,_=>go_simp
 rintro z E ⟨rfl,rfl⟩;rw[HZ.out];go_wp2_with fail;obtain⟨W,hW,fe,fb,hb⟩:∃ W,W=(((w.alloc (.cells #[.int .i64 2,.int .i64 s,.int .i64 lv,.int .i64 5,.int .i64 oy,.int .i64 oh,.int .i64 ov] 71)).drewN nq).alloc (.cells #[.int .i64 1,.int .i64 s,.int .i64 lv,.int .i64 5,.int .i64 40,.int .i64 oy,.int .i64 oh] 3)).alloc (.cells #[.int .u8 1,.int .u8 s,.int .u8 40,.int .u8 oy,.int .u8 oh] 5)∧
  (w.heap.size<W.heap.size∧W.cell? ⟨w.heap.size,0,none⟩=some (.int .i64 2)∧W.cell? ⟨w.heap.size,1,none⟩=some (.int .i64 s)∧W.cell? ⟨w.heap.size,2,none⟩=some (.int .i64 lv)∧W.cell? ⟨w.heap.size,3,none⟩=some (.int .i64 5)∧W.cell? ⟨w.heap.size,4,none⟩=some (.int .i64 oy)∧W.cell? ⟨w.heap.size,5,none⟩=some (.int .i64 oh)∧W.cell? ⟨w.heap.size,6,none⟩=some (.int .i64 ov))∧
  (w.heap.size+1+1<W.heap.size∧W.cell? ⟨w.heap.size+1+1,0,none⟩=some (.int .u8 1)∧W.cell? ⟨w.heap.size+1+1,1,none⟩=some (.int .u8 s)∧W.cell? ⟨w.heap.size+1+1,2,none⟩=some (.int .u8 40)∧W.cell? ⟨w.heap.size+1+1,3,none⟩=some (.int .u8 oy)∧W.cell? ⟨w.heap.size+1+1,4,none⟩=some (.int .u8 oh))∧Below w.heap.size w W:=
  ⟨_,rfl,⟨by simp;omega,by go_simp,by go_simp,by go_simp,by go_simp,by go_simp,by go_simp,by go_simp⟩,⟨by simp,by go_simp,by go_simp,by go_simp,by go_simp,by go_simp⟩,by (repeat (first|(with_reducible exact Below.refl _ _)|((with_reducible refine Below.setCell ?_ ?_ _);rotate_left;focus (first|(simp;done)|(simp;omega)))|(with_reducible refine below_drewN ?_ _)|(with_reducible refine Below.drew ?_)|((with_reducible refine Below.alloc ?_ ?_ _);rotate_left;focus (first|(simp;done)|(simp;omega)))))⟩
 rw[<-hW];clear hW HL HZ;obtain⟨l0,x0,x1,x2,x3,x4,x5,x6⟩:=fe;have hcmp:=Cn xk xs Td Te Tf Tg Ti 2 s lv 5 oy oh ov
 go_region_held3 (fun E=>w.heap.size<E.heap.size∧E.cell? ⟨w.heap.size,0,none⟩=some (.int .i64 2)∧E.cell? ⟨w.heap.size,1,none⟩=some (.int .i64 s)∧E.cell? ⟨w.heap.size,2,none⟩=some (.int .i64 lv)∧E.cell? ⟨w.heap.size,3,none⟩=some (.int .i64 5)∧E.cell? ⟨w.heap.size,4,none⟩=some (.int .i64 oy)∧E.cell? ⟨w.heap.size,5,none⟩=some (.int .i64 oh)∧E.cell? ⟨w.heap.size,6,none⟩=some (.int .i64 ov)) (first|exact⟨l0,x0,x1,x2,x3,x4,x5,x6⟩|exact MV (by assumption) (by assumption)|go_keep) ((go_at_call 89;refine (HE.out W.drew fb.2.1 fb.2.2.1 fb.2.2.2.1 fb.2.2.2.2.1 fb.2.2.2.2.2).mono ?_;rintro z Y ⟨rfl,hq⟩))
 obtain⟨m0,m1,m2,m3,m4,m5⟩:=fb;go_wp2
 go_ret2
 exact⟨w.heap.size+1+1,rfl,by omega,sG m0 hq.size,hb.drew.trans (hq.mono hb.size),(hq.cell (p:=⟨w.heap.size+1+1,0,none⟩) m0).trans m1,(hq.cell (p:=⟨w.heap.size+1+1,1,none⟩) m0).trans m2,(hq.cell (p:=⟨w.heap.size+1+1,2,none⟩) m0).trans m3,(hq.cell (p:=⟨w.heap.size+1+1,3,none⟩) m0).trans m4,(hq.cell (p:=⟨w.heap.size+1+1,4,none⟩) m0).trans m5⟩
set_option maxHeartbeats 2000000 in
theorem EW (s lv ok oy oh ov:Int) (s1:0<=s) (s2:s<=255) (l1:0<=lv) (l2:lv<=255) (o1:0<=ok) (o2:ok<=255) (y1:0<=oy) (y2:oy<=255) (w:World):
 Calls Tryz.prog 62 #[lN ⟨5,s,lv,ok,oy,oh,ov⟩] w (sF w false 4 s lv oy 0):=by
 have HL:=Lib.hid (fun g W h=>pJ g 0 7 [4,s,lv,ok,lv,oy,0] (by simp) W h);have HZ:Hid ([4,s,lv,ok,lv,oy,0].all vM=true):=by simp[RowKit.Hid,vM];omega
 go_enter Tryz.func62,Tryz.ntmps62;go_wp2_with fail
 go_quiet (fail)
 go_wp2_with fail;refine (HL.out _ _ ?_).mono ?_
 . intro i hi
   match i,hi with
   |0,_=>go_simp
   |1,_=>go_simp
   |2,_=>go_simp
   |3,_=>go_simp
   |4,_=>go_simp
   |5,_=>go_simp
   |6,_=>go_simp
 rintro z E ⟨rfl,rfl⟩;rw[HZ.out];go_wp2_with fail
 go_quiet (fail)
 go_wp2
 go_ret2
 exact⟨w.heap.size+1+1,rfl,by omega,by simp,by (repeat (first|(with_reducible exact Below.refl _ _)|((with_reducible refine Below.setCell ?_ ?_ _);rotate_left;focus (first|(simp;done)|(simp;omega)))|(with_reducible refine below_drewN ?_ _)|(with_reducible refine Below.drew ?_)|((with_reducible refine Below.alloc ?_ ?_ _);rotate_left;focus (first|(simp;done)|(simp;omega))))),by go_simp,by go_simp,by go_simp,by go_simp,by go_simp⟩
end Go.Proofs.YthicolbbmjfkfaaGreat.bR
namespace Go.Proofs.YthicolbbmjfkfaaGreat.Em
open Go.ChangeShapes Go.WideShapes Go.ChangeAt Go.RowKit En
def yT (w:World):List Ev->List Value->Prop
 |[],xs=>xs=[]
 |e::l,xs=>∃ a c ys,xs=ng e (.slice a e.res.aO.length c)++ys∧Ow.Row w 0 2 (.slice a e.res.aO.length c) (bJ e.res.aO)∧yT w l ys
theorem yT.len {w:World}:∀ {l:List Ev} {xs:List Value},yT w l xs->xs.length=l.length*12
 |[],_,h=>by rw[show _=_ from h];rfl
 |e::l,_,⟨a,c,ys,h1,_,h3⟩=>by rw[h1,jR,yT.len h3,List.length_cons];show 12+_=_;omega
theorem yT.at_ {w:World}:∀ {l:List Ev} {xs:List Value} (_:yT w l xs) (k:Nat) (e:Ev),l[k]? =some e->∃ a c,(∀ j,j<12->xs[k*12+j]? =(ng e (.slice a e.res.aO.length c))[j]?)∧Ow.Row w 0 2 (.slice a e.res.aO.length c) (bJ e.res.aO)
 |[],_,_,k,e,Z=>by simp at Z
 |e0::l,_,⟨a,c,ys,h1,h2,h3⟩,0,e,Z=>by
  simp at Z;subst Z;refine⟨a,c,fun j hj=>?_,h2⟩;rw[h1,List.getElem?_append_left (by show 0*12+j<12;omega)];simp
 |e0::l,_,⟨a,c,ys,h1,h2,h3⟩,k+1,e,Z=>by
  obtain⟨a',c',g1,g2⟩:=yT.at_ h3 k e (by simpa using Z);refine⟨a',c',fun j hj=>?_,g2⟩;rw[h1,Qx (by show 12<=_;omega)];rw[show (k+1)*12+j - (ng e0 (.slice a e0.res.aO.length c)).length=k*12+j from by show _ - 12=_;omega];exact g1 j hj
theorem yO {w:World} {base size:Nat} {v:Value} {xs:List Value} (h:Ow.Row w base size v xs):Ow.Row w 0 size v xs:=by
 obtain⟨a,n,cap,h1,h2,h3,h4,h5⟩:=h;refine⟨a,n,cap,h1,h2,h3,h4,?_⟩
 rcases h5 with h5|⟨g,off,e1,e2,e3,e4⟩
 . exact .inl h5
 . exact .inr ⟨g,off,e1,zz _,e3,e4⟩
theorem G5.Xx {base:Nat} {w:World}:∀ {l:List Ev} {xs:List Value},G5 base w l xs->yT w l xs
 |[],_,h=>h
 |e::l,_,⟨vp,ys,h1,h2,h3⟩=>by
  have hr:=yO (tQ h2);obtain⟨a,c,rfl,_⟩:=Ow.bN h2;exact⟨a,c,ys,h1,hr,G5.Xx h3⟩
theorem yT.below {w E:World} (hb:Below w.heap.size w E):∀ {l:List Ev} {xs:List Value},yT w l xs->yT E l xs
 |[],_,h=>h
 |e::l,_,⟨a,c,ys,h1,h2,h3⟩=>⟨a,c,ys,h1,h2.below hb,yT.below hb h3⟩
theorem Sg (a b c d:Int) (w:World):(binOp .neq 27 (.agg #[I a,I b,I c,I d]) (.agg #[I a,I b,I c,I d])).run Tryz.prog w=.ok (.bool false) w:=by
 go_simp
theorem vV (va vb:Value) (l:List Ev) (ca cb:List Value) (w:World) (hA:Ow.Row w 0 12 va ca) (hB:Ow.Row w 0 12 vb cb) (eA:yT w l ca) (eB:yT w l cb):
 zk 14 #[va,vb] w fun e E=>e=.returned (.bool true)∧Below w.heap.size w E:=by
 obtain⟨a,n,cap,rfl,hn,hc,hm,ha⟩:=hA;obtain⟨b,n',cap',rfl,hn',hc',hm',hb⟩:=hB;rw[eA.len] at hn;rw[eB.len] at hn';obtain rfl:n=n':=by omega
 have HX:Hid (l.length=n):=by exact (by omega:l.length=n)
 have EA:=zH eA;have EB:=zH eB;unfold maxLen at hm;have hmax:n<=9223372036854775807:=by omega
 clear hn hn' hm hm' hc hc' eA eB;go_enter Tryz.func14,Tryz.ntmps14;go_wp2
 go_loopw [5] (fun i wr=>(∃ k:Nat,k<=n∧i=I k)∧Below w.heap.size w wr) (fun i _=>n - (intOf i).toNat)
 case atStart=>exact⟨⟨0,by omega,rfl⟩,Below.refl _ _⟩
 case round=>
  obtain⟨⟨k,Z,rfl⟩,hbel⟩:=hrel
  by_cases hlt:k<n
  . rcases ha with ha|⟨g,off,rfl,_,hg,hcell⟩
    . omega
    rcases hb with hb|⟨g',off',rfl,_,hg',hcell'⟩
    . omega
    obtain⟨e,he⟩:∃ e,l[k]? =some e:=⟨_,zx (by rw[HX.out];exact hlt)⟩
    obtain⟨a1,c1,r1,s1⟩:=EA.out.at_ k e he;obtain⟨a2,c2,r2,s2⟩:=EB.out.at_ k e he;have i1:(0:Int)<=(k:Int):=by omega
    have i2:(k:Int)<(n:Int):=by omega
    obtain⟨pn,hpn⟩:∃ pn,pn=e.res.aO.length:=⟨_,rfl⟩
    rw[<-hpn] at r1 r2 s1 s2;have S1:Hid (∀ E,Below wr.heap.size wr E->Ow.Row E 0 2 (.slice a1 pn c1) (bJ e.res.aO)):=fun E hb=>s1.below (hbel.trans (hb.mono hbel.size))
    have S2:Hid (∀ E,Below wr.heap.size wr E->Ow.Row E 0 2 (.slice a2 pn c2) (bJ e.res.aO)):=fun E hb=>s2.below (hbel.trans (hb.mono hbel.size))
    have kA:∀ E,Below wr.heap.size wr E->∀ j,j<12->E.cell? (J g (off+(k*12+j)))=(ng e (.slice a1 pn c1))[j]? :=fun E hb j hj=>by rw[(hbel.trans (hb.mono hbel.size)).cell (p:=(J g (off+(k*12+j)))) hg,hcell (k*12+j) (by omega)];exact r1 j hj
    have kB:∀ E,Below wr.heap.size wr E->∀ j,j<12->E.cell? (J g' (off'+(k*12+j)))=(ng e (.slice a2 pn c2))[j]? :=fun E hb j hj=>by rw[(hbel.trans (hb.mono hbel.size)).cell (p:=(J g' (off'+(k*12+j)))) hg',hcell' (k*12+j) (by omega)];exact r2 j hj
    have HK:Hid (∀ E,Below wr.heap.size wr E->E.cell? ⟨g,off+k*12,none⟩=zt e.kind∧E.cell? ⟨g,off+k*12+1,none⟩=zt e.t∧E.cell? ⟨g,off+k*12+2,none⟩=zv e.n∧E.cell? ⟨g,off+k*12+3,none⟩=zt e.op.kind∧E.cell? ⟨g,off+k*12+4,none⟩=zt e.op.F∧E.cell? ⟨g,off+k*12+5,none⟩=zt e.op.hi∧E.cell? ⟨g,off+k*12+6,none⟩=zt e.op.value∧E.cell? ⟨g,off+k*12+7,none⟩=zt e.res.e∧E.cell? ⟨g,off+k*12+8,none⟩=zt e.res.value∧E.cell? ⟨g,off+k*12+9,none⟩=some (.slice a1 pn c1)∧E.cell? ⟨g,off+k*12+10,none⟩=zt e.res.over∧E.cell? ⟨g,off+k*12+11,none⟩=zt e.res.aQ∧E.cell? ⟨g',off'+k*12,none⟩=zt e.kind∧E.cell? ⟨g',off'+k*12+1,none⟩=zt e.t∧E.cell? ⟨g',off'+k*12+2,none⟩=zv e.n∧E.cell? ⟨g',off'+k*12+3,none⟩=zt e.op.kind∧E.cell? ⟨g',off'+k*12+4,none⟩=zt e.op.F∧E.cell? ⟨g',off'+k*12+5,none⟩=zt e.op.hi∧E.cell? ⟨g',off'+k*12+6,none⟩=zt e.op.value∧E.cell? ⟨g',off'+k*12+7,none⟩=zt e.res.e∧E.cell? ⟨g',off'+k*12+8,none⟩=zt e.res.value∧E.cell? ⟨g',off'+k*12+9,none⟩=some (.slice a2 pn c2)∧E.cell? ⟨g',off'+k*12+10,none⟩=zt e.res.over∧E.cell? ⟨g',off'+k*12+11,none⟩=zt e.res.aQ):=fun E hb=>by
     have A1:=kA E hb;have B1:=kB E hb;exact⟨A1 0 (by omega),A1 1 (by omega),A1 2 (by omega),A1 3 (by omega),A1 4 (by omega),A1 5 (by omega),A1 6 (by omega),A1 7 (by omega),A1 8 (by omega),A1 9 (by omega),A1 10 (by omega),A1 11 (by omega),B1 0 (by omega),B1 1 (by omega),B1 2 (by omega),B1 3 (by omega),B1 4 (by omega),B1 5 (by omega),B1 6 (by omega),B1 7 (by omega),B1 8 (by omega),B1 9 (by omega),B1 10 (by omega),B1 11 (by omega)⟩
    have HB:=zH hbel;clear hpn he r1 r2 s1 s2 kA kB hcell hcell' hbel hg hg';generalize (e.kind:Int)=z0 at*;generalize (e.t:Int)=z1 at*;generalize (e.n:Int)=z2 at*;generalize (e.op.kind:Int)=z3 at*;generalize (e.op.F:Int)=z4 at*;generalize (e.op.hi:Int)=z5 at*;generalize (e.op.value:Int)=z6 at*;generalize (e.res.e:Int)=z7 at*;generalize (e.res.value:Int)=z8 at*;generalize (e.res.over:Int)=Kn at*;generalize (e.res.aQ:Int)=OC at*;generalize e.res.aO=ps at*;have hop:=Sg z3 z4 z5 z6;obtain⟨y0,y1,y2,y3,y4,y5,y6,y7,y8,y9,Np,SQ,y12,y13,y14,y15,y16,y17,y18,y19,y20,y21,y22,y23⟩:=HK.out wr (Below.refl _ _);go_upto_region 6 with fail
    go_region_held3 (fun E=>E.cell? ⟨g,off+k*12,none⟩=zt z0∧E.cell? ⟨g,off+k*12+1,none⟩=zt z1∧E.cell? ⟨g,off+k*12+2,none⟩=zv z2∧E.cell? ⟨g,off+k*12+3,none⟩=zt z3∧E.cell? ⟨g,off+k*12+4,none⟩=zt z4∧E.cell? ⟨g,off+k*12+5,none⟩=zt z5∧E.cell? ⟨g,off+k*12+6,none⟩=zt z6∧E.cell? ⟨g,off+k*12+7,none⟩=zt z7∧E.cell? ⟨g,off+k*12+8,none⟩=zt z8∧E.cell? ⟨g,off+k*12+9,none⟩=some (.slice a1 pn c1)∧E.cell? ⟨g,off+k*12+10,none⟩=zt Kn∧E.cell? ⟨g,off+k*12+11,none⟩=zt OC∧E.cell? ⟨g',off'+k*12,none⟩=zt z0∧E.cell? ⟨g',off'+k*12+1,none⟩=zt z1∧E.cell? ⟨g',off'+k*12+2,none⟩=zv z2∧E.cell? ⟨g',off'+k*12+3,none⟩=zt z3∧E.cell? ⟨g',off'+k*12+4,none⟩=zt z4∧E.cell? ⟨g',off'+k*12+5,none⟩=zt z5∧E.cell? ⟨g',off'+k*12+6,none⟩=zt z6∧E.cell? ⟨g',off'+k*12+7,none⟩=zt z7∧E.cell? ⟨g',off'+k*12+8,none⟩=zt z8∧E.cell? ⟨g',off'+k*12+9,none⟩=some (.slice a2 pn c2)∧E.cell? ⟨g',off'+k*12+10,none⟩=zt Kn∧E.cell? ⟨g',off'+k*12+11,none⟩=zt OC)
     (first|exact⟨y0,y1,y2,y3,y4,y5,y6,y7,y8,y9,Np,SQ,y12,y13,y14,y15,y16,y17,y18,y19,y20,y21,y22,y23⟩|assumption|go_keep|exact HK.out _ (by assumption)|exact HK.out _ (Below.drew (Below.refl _ _)))
     (first|(go_at_call 12;refine (vO z7 z8 Kn OC a1 a2 pn c1 c2 ps _ (S1.out _ (Below.drew (Below.refl _ _))) (S2.out _ (Below.drew (Below.refl _ _)))).mono ?_;rintro e w6 ⟨rfl,hb6⟩;have hq:=(Below.drew (Below.refl wr.heap.size wr)).trans hb6))
    have HQ:=zH hq;clear hq;go_wp2_with fail;exact⟨⟨⟨k+1,by omega,by go_num⟩,HB.out.trans (HQ.out.mono HB.out.size)⟩,by simp[intOf];omega⟩
  . obtain rfl:k=n:=by omega
    go_wp2_with fail;go_ret;exact⟨rfl,hbel⟩
end Go.Proofs.YthicolbbmjfkfaaGreat.Em
