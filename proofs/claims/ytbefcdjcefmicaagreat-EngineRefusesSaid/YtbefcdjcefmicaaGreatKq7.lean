import Derived.Laws.AppendOwnNone
import Derived.ArgAppend
import Derived.Test.YtbefcdjcefmicaaGreatKq5
import Derived.ChangeOld
import Derived.Deep.Slices
namespace Go.Proofs.YtbefcdjcefmicaaGreat.Ow
open Go.ChangeShapes Go.WideShapes Go.ChangeAt Go.RowKit
set_option linter.unusedVariables false
set_option linter.unusedSimpArgs false
set_option maxRecDepth 100000
set_option maxHeartbeats 1600000
def Row (w:World) (base size:Nat) (v:Value) (xs:List Value):Prop:=
 ∃ a n cap,v=.slice a n cap∧xs.length=n*size∧n≤cap∧cap≤maxLen∧(n=0∨∃ g off,a=some ⟨g,off,none⟩∧base≤g∧g<w.heap.size∧∀ j,j<n*size→w.cell? ⟨g,off+j,none⟩=xs[j]?)
theorem Row.below {w w1:World} {base size:Nat} {v:Value} {xs:List Value} (h:Row w base size v xs) (hb:Below w.heap.size w w1):Row w1 base size v xs:=by
 obtain⟨a,n,cap,h1,h2,h3,h4,h5⟩:=h;refine⟨a,n,cap,h1,h2,h3,h4,?_⟩
 rcases h5 with h5|⟨g,off,e1,e2,e3,e4⟩
 · exact .inl h5
 · refine .inr ⟨g,off,e1,e2,Nat.lt_of_lt_of_le e3 hb.size,fun j hj=>?_⟩
   rw[hb.cell (p:=⟨g,off+j,none⟩) e3];exact e4 j hj
theorem own_form {w:World} {base:Nat} {e:TypeId} {size:Nat} {v:Value} {n:Nat} {xs:List Value} (h:w.ownsRow base e size v n xs):∃ a cap,v=.slice a n cap∧n≤cap∧cap≤9223372036854775807∧Row w base size (.slice a n n) xs:=by
 rcases h.2 with ⟨h0,hn⟩|⟨g,cap,cur,h1,h2,h3,h4,h5,h6,h7⟩
 · subst hn;exact⟨none,0,h0,by omega,by omega,none,0,0,rfl,h.1,by omega,by unfold maxLen;omega,.inl rfl⟩
 · have hm:=h5
   unfold maxLen at hm;refine⟨some ⟨g,0,none⟩,cap,h1,h4,hm,some ⟨g,0,none⟩,n,n,rfl,h.1,by omega,by omega,.inr ⟨g,0,rfl,h2,(Array.getElem?_eq_some_iff.1 h3).1,fun j hj=>?_⟩⟩;subst h1;rw[Nat.zero_add];exact h.cellAt j hj
theorem new_row (w:World) (cs:List Value) (T:TypeId) (g:Nat) (hg:g=w.heap.size) (j:Nat) (u:Value) (h:cs[j]? =some u):(w.alloc (.cells cs.toArray T)).cell? ((⟨g,0,none⟩:Addr).add j)=some u:=by
 subst hg;have e:(⟨w.heap.size,0,none⟩:Addr).add j=⟨w.heap.size,j,none⟩:=by simp[Addr.add];exact fun h=>h.symm
 rw[e,World.cell?_alloc_at _ _ _ _ rfl]
 simpa using h
theorem run_append_none {P:Program} {w:World} (base:Nat) (t ty e:TypeId) (i:TypeInfo) (size:Nat) (ht:P.underlying t=some (.slice e)) (hi:P.info? e=some i)
 (v:Value) (n c:Nat) (xs:List Value) (hown:w.ownsRow base e size v n xs):
 (Builtin.append_ #[t,t] ty #[v,.slice none 0 c]).run P w=.ok v w:=by
 rcases hown.2 with ⟨rfl,rfl⟩|⟨g,cap,cur,rfl,_,_,hnc,_⟩
 · simp[Builtin.append_,run_underlying ht,sizeOf,typeInfo,hi,Builtin.lenOf,Builtin.firstCells]
 · simp[Builtin.append_,run_underlying ht,sizeOf,typeInfo,hi,Builtin.lenOf,Builtin.firstCells,hnc,storeCells]
theorem wpList_append_row {P:Program} {ops:Array Oper} {rest:List Oper} {o:Oper} {a:Act} {Q:Exit→Act→World→Prop} (w:World) (hgd:o.guard=none) (s x:Operand) (t:TypeId)
 (ho:o.op=.call {callee:=.builtin .append,args:=#[s,x],argTypes:=#[t,t]})
 (base:Nat) (e:TypeId) (i:TypeInfo) (z:Value) (size bytes:Nat) (ht:P.underlying t=some (.slice e)) (hi:P.info? e=some i) (hz:i.zero=some z)
 (hsize:i.size=size) (hby:i.bytes=bytes) (hzs:z.cells.size=size) (hsz:0<size)
 (v:Value) (n:Nat) (xs:List Value) (hs:a.eval s=v) (hown:w.ownsRow base e size v n xs)
 (bx:Nat) (xv:Value) (news:List Value) (hx:a.eval x=xv) (hr:Row w bx size xv news) (m:Nat) (hl:news.length=m*size) (h1:∀ u∈news,u.oneCell'=true)
 (h63:n+m≤maxLen) (hbytes:(n+m)*bytes≤140737488355328) (hbase:base≤w.heap.size)
 (h:∀ v' w',w'.ownsRow base e size v' (n+m) (xs++news)→w.grownBy w' v.ownBlock→wpList P ops Q rest (a.put o.dst v') w'):wpList P ops Q (o::rest) a w:=by
 obtain⟨ao,m',c,rfl,hm',hmc,hcm,hcell⟩:=hr;obtain rfl:m=m':=by
  rw[hl] at hm';exact Nat.eq_of_mul_eq_mul_right hsz hm'
 cases ao with
 |none=>
  have hm0:m=0:=by
   rcases hcell with h0|⟨g,off,h0,_⟩
   · exact h0
   · cases h0
  subst hm0;obtain rfl:news=[]:=List.eq_nil_of_length_eq_zero (by simpa using hl);refine wpList_plain hgd fun K hK=>?_
  have hrun:=run_append_none (P:=P) (w:=w) base t o.type e i size ht hi v n c xs hown;unfold Oper.wp;simp[execOp,ho,resolve,invoke,builtin,hs,hx,hrun,Result.andThen];exact hK _ _ (h v w (by simpa using hown) ⟨rfl,rfl,rfl,Nat.le_refl _,fun _ _ _=>rfl⟩)
 |some ad=>
  have hnews:∀ j u,news[j]? =some u→w.cell? (ad.add j)=some u:=by
   intro j u hj;have hjl:j<news.length:=(List.getElem?_eq_some_iff.1 hj).1
   rcases hcell with h0|⟨g,off,h0,_,_,hc⟩
   · subst h0;omega
   · simp only[Option.some.injEq] at h0
     subst h0;have e1:(⟨g,off,none⟩:Addr).add j=⟨g,off+j,none⟩:=by
      unfold Addr.add;split
      · rename_i h;subst h;rfl
      · rfl
     rw[e1,hc j (by omega)];exact hj
  exact wpList_append_own w hgd s x t ho base e i z size bytes ht hi hz hsize hby hzs hsz v n xs hs hown ad m c news hx hl hnews h1 h63 hbytes hbase fun v' w' h2 h3 _=>h v' w' h2 h3
theorem append_where {P:Program} (w:World) (base:Nat) (t ty e:TypeId) (i:TypeInfo) (z:Value) (size bytes:Nat) (ht:P.underlying t=some (.slice e)) (hi:P.info? e=some i) (hz:i.zero=some z)
 (hsize:i.size=size) (hby:i.bytes=bytes) (hzs:z.cells.size=size) (hsz:0<size)
 (v:Value) (n:Nat) (xs:List Value) (hown:w.ownsRow base e size v n xs)
 (a:Addr) (m c:Nat) (hm:0<m) (news:List Value) (hl:news.length=m*size) (hnews:∀ j u,news[j]? =some u→w.cell? (a.add j)=some u) (h1:∀ u∈news,u.oneCell'=true)
 (h63:n+m≤maxLen) (hbytes:(n+m)*bytes≤140737488355328) (v':Value) (w':World)
 (hr':(Builtin.append_ #[t,t] ty #[v,.slice (some a) m c]).run P w=.ok v' w'):
 v'.ownBlock=v.ownBlock∨∀ g,v'.ownBlock=some g→w.heap.size≤g:=by
 subst hsize;subst hby;have hsmall:n+m≤9223372036854775807:=by simp only[maxLen] at h63;omega
 rcases hown.2 with ⟨rfl,rfl⟩|⟨g,cap,cur,rfl,hbg,hg,hnc,hcm,hcs,htake⟩
 · have hr:=run_append_nil (P:=P) w t ty e i z ht hi hz a m c news hl hnews (by omega) (by omega) (by have hb:=hbytes;simp only[Nat.zero_add] at hb;omega)
   rw[hr] at hr';injection hr' with e1 e2
   subst e1;right;intro g hg;simp only[Value.ownBlock,Option.some.injEq] at hg;omega
 · by_cases hroom:n+m≤cap
   · have hfit:n*i.size+news.length≤cur.size:=by rw[hl,hcs,←Nat.add_mul];exact Nat.mul_le_mul_right _ hroom
     have hr:=run_append_room (P:=P) w t ty e i ht hi g n cap cur hg a m c news hl hnews h1 hroom hfit;rw[hr] at hr';injection hr' with e1 e2
     subst e1;left;rfl
   · have holds:∀ j u,xs[j]? =some u→w.cell? ((⟨g,0,none⟩:Addr).add j)=some u:=hown.cells (g:=g) rfl
     have hr:=run_append_grow (P:=P) w t ty e i z ht hi hz ⟨g,0,none⟩ n cap xs hown.1 holds a m c news hl hnews (by omega) (by omega) (growslice_fits (by omega) hbytes);rw[hr] at hr';injection hr' with e1 e2
     subst e1;right;intro g hg;simp only[Value.ownBlock,Option.some.injEq] at hg;omega
theorem wpList_append_to {P:Program} {ops:Array Oper} {rest:List Oper} {o:Oper} {a:Act} {Q:Exit→Act→World→Prop} (w:World) (hgd:o.guard=none) (s x:Operand) (t:TypeId)
 (ho:o.op=.call {callee:=.builtin .append,args:=#[s,x],argTypes:=#[t,t]})
 (base:Nat) (e:TypeId) (i:TypeInfo) (z:Value) (size bytes:Nat) (ht:P.underlying t=some (.slice e)) (hi:P.info? e=some i) (hz:i.zero=some z)
 (hsize:i.size=size) (hby:i.bytes=bytes) (hzs:z.cells.size=size) (hsz:0<size)
 (v:Value) (n:Nat) (xs:List Value) (hs:a.eval s=v) (hown:w.ownsRow base e size v n xs)
 (ad:Addr) (m c:Nat) (hm:0<m) (news:List Value) (hx:a.eval x=.slice (some ad) m c) (hl:news.length=m*size) (hnews:∀ j u,news[j]? =some u→w.cell? (ad.add j)=some u) (h1:∀ u∈news,u.oneCell'=true)
 (h63:n+m≤maxLen) (hbytes:(n+m)*bytes≤140737488355328) (hbase:base≤w.heap.size)
 (h:∀ v' w',w'.ownsRow base e size v' (n+m) (xs++news)→w.grownBy w' v.ownBlock→(v'.ownBlock=v.ownBlock∨∀ g,v'.ownBlock=some g→w.heap.size≤g)→wpList P ops Q rest (a.put o.dst v') w'):
 wpList P ops Q (o::rest) a w:=by
 refine wpList_plain hgd fun _ hK=>?_
 obtain⟨v',w',hr,h2,h3,_⟩:=run_append_own (P:=P) w base t o.type e i z size bytes ht hi hz hsize hby hzs hsz v n xs hown ad m c news hl hnews h1 h63 hbytes hbase;have h4:=append_where (P:=P) w base t o.type e i z size bytes ht hi hz hsize hby hzs hsz v n xs hown ad m c hm news hl hnews h1 h63 hbytes v' w' hr;unfold Oper.wp execOp;simp only[ho,resolve,invoke,builtin,Sem.run_bind,Sem.run_pure,Result.andThen_ok,List.map_toArray,List.map_cons,List.map_nil,hs,hx,hr];exact hK _ _ (h v' w' h2 h3 h4)
theorem wp_append_to {P:Program} (w:World) {o:Oper} {a:Act} {K:Act→World→Prop} {Q:Exit→Act→World→Prop} (s x:Operand) (t:TypeId)
 (ho:o.op=.call {callee:=.builtin .append,args:=#[s,x],argTypes:=#[t,t]})
 (base:Nat) (e:TypeId) (i:TypeInfo) (z:Value) (size bytes:Nat) (ht:P.underlying t=some (.slice e)) (hi:P.info? e=some i) (hz:i.zero=some z)
 (hsize:i.size=size) (hby:i.bytes=bytes) (hzs:z.cells.size=size) (hsz:0<size)
 (v:Value) (n:Nat) (xs:List Value) (hs:a.eval s=v) (hown:w.ownsRow base e size v n xs)
 (ad:Addr) (m c:Nat) (hm:0<m) (news:List Value) (hx:a.eval x=.slice (some ad) m c) (hl:news.length=m*size) (hnews:∀ j u,news[j]? =some u→w.cell? (ad.add j)=some u) (h1:∀ u∈news,u.oneCell'=true)
 (h63:n+m≤maxLen) (hbytes:(n+m)*bytes≤140737488355328) (hbase:base≤w.heap.size)
 (h:∀ v' w',w'.ownsRow base e size v' (n+m) (xs++news)→w.grownBy w' v.ownBlock→(v'.ownBlock=v.ownBlock∨∀ g,v'.ownBlock=some g→w.heap.size≤g)→K (a.put o.dst v') w'):o.wp P a w K Q:=by
 obtain⟨v',w',hr,h2,h3,_⟩:=run_append_own (P:=P) w base t o.type e i z size bytes ht hi hz hsize hby hzs hsz v n xs hown ad m c news hl hnews h1 h63 hbytes hbase;have h4:=append_where (P:=P) w base t o.type e i z size bytes ht hi hz hsize hby hzs hsz v n xs hown ad m c hm news hl hnews h1 h63 hbytes v' w' hr;unfold Oper.wp execOp;simp only[ho,resolve,invoke,builtin,Sem.run_bind,Sem.run_pure,Result.andThen_ok,List.map_toArray,List.map_cons,List.map_nil,hs,hx,hr];exact h v' w' h2 h3 h4
end Go.Proofs.YtbefcdjcefmicaaGreat.Ow
namespace Go.Proofs.YtbefcdjcefmicaaGreat.Em
open Go.ChangeShapes Go.WideShapes Go.ChangeAt Go.RowKit En
set_option linter.unusedVariables false
set_option linter.unusedSimpArgs false
set_option maxRecDepth 100000
set_option maxHeartbeats 1600000
theorem pairCs_len:∀ l:List (Nat×Nat),(pairCs l).length=l.length*2
 |[]=>rfl
 |p::l=>by have:=pairCs_len l;simp[pairCs,two] at this ⊢;omega
theorem pairCs_get:∀ (l:List (Nat×Nat)) (k:Nat) (p:Nat×Nat),l[k]? =some p→(pairCs l)[k*2]? =some (zi (p.1:Int))∧(pairCs l)[k*2+1]? =some (zi (p.2:Int))
 |[],_,_,h=>by cases h
 |q::l,0,p,h=>by
  obtain rfl:q=p:=by simpa using h
  exact⟨rfl,rfl⟩
 |q::l,k+1,p,h=>by
  have:=pairCs_get l k p (by simpa using h);rw[show (k+1)*2=k*2+1+1 by omega];exact this
theorem run_eqP (a b c d:Int) (w:World):(binOp .neq 140 (.agg #[zi a,zi b]) (.agg #[zi c,zi d])).run Tryz.prog w=.ok (.bool (!(decide (a=c)&&decide (b=d)))) w:=by
 go_simp
 repeat' split
 all_goals simp[*]
set_option maxHeartbeats 1000000 in
theorem same_pairs (va vb:Value) (ps:List (Nat×Nat)) (ba bb:Nat) (w:World) (hA:Ow.Row w ba 2 va (pairCs ps)) (hB:Ow.Row w bb 2 vb (pairCs ps)):
 Calls Tryz.prog 46 #[va,vb] w fun e w'=>e=.returned (.bool true)∧Below w.heap.size w w':=by
 obtain⟨a,n,cap,rfl,hn,hc,hm,ha⟩:=hA;obtain⟨b,n',cap',rfl,hn',hc',hm',hb⟩:=hB;rw[pairCs_len] at hn hn';obtain rfl:n=n':=by omega
 have HX:Hid (ps.length=n):=by exact (by omega:ps.length=n)
 unfold maxLen at hm;have hmax:n≤9223372036854775807:=by omega
 clear hn hn' hm hm' hc hc';go_enter Tryz.func46,Tryz.ntmps46;go_wp2
 go_loopw [5] (fun i wr=>(∃ k:Nat,k≤n∧i=zi k)∧Below w.heap.size w wr) (fun i _=>n - (intOf i).toNat)
 case atStart=>exact⟨⟨0,by omega,rfl⟩,Below.refl _ _⟩
 case round=>
  obtain⟨⟨k,hk,rfl⟩,hbel⟩:=hrel
  by_cases hlt:k<n
  · rcases ha with ha|⟨g,off,rfl,_,hg,hcell⟩
    · omega
    rcases hb with hb|⟨g',off',rfl,_,hg',hcell'⟩
    · omega
    obtain⟨p,hp⟩:∃ p,ps[k]? =some p:=⟨_,List.getElem?_eq_getElem (by rw[HX.out];exact hlt)⟩
    obtain⟨e1,e2⟩:=pairCs_get ps k p hp;have i1:(0:Int)≤(k:Int):=by omega
    have i2:(k:Int)<(n:Int):=by omega
    have c1:=hcell (k*2) (by omega);have c2:=hcell (k*2+1) (by omega);have d1:=hcell' (k*2) (by omega);have d2:=hcell' (k*2+1) (by omega);rw[e1] at c1 d1;rw[e2] at c2 d2;replace c1:=(hbel.cell (p:=⟨g,off+k*2,none⟩) hg).trans c1;replace c2:=(hbel.cell (p:=⟨g,off+(k*2+1),none⟩) hg).trans c2;replace d1:=(hbel.cell (p:=⟨g',off'+k*2,none⟩) hg').trans d1;replace d2:=(hbel.cell (p:=⟨g',off'+(k*2+1),none⟩) hg').trans d2;have c3:wr.cell? ⟨g,off+k*2+1,none⟩=some (zi (p.2:Int)):=c2;have d3:wr.cell? ⟨g',off'+k*2+1,none⟩=some (zi (p.2:Int)):=d2;have hcmp:=run_eqP p.1 p.2 p.1 p.2;rw[show (!(decide ((p.1:Int)=(p.1:Int))&&decide ((p.2:Int)=(p.2:Int))))=false by simp] at hcmp;generalize (p.1:Int)=x at*;generalize (p.2:Int)=y at*;clear hp e1 e2 hcell hcell';go_wp2_with fail
    go_quiet (fail)
    go_wp2_with fail;exact⟨⟨⟨k+1,by omega,by go_num⟩,⟨hbel.os,hbel.tape,hbel.output,hbel.size,hbel.block⟩⟩,by simp[intOf];omega⟩
  · obtain rfl:k=n:=by omega
    go_wp2_with fail;go_ret;exact⟨rfl,hbel⟩
theorem own_row {w:World} {base:Nat} {e:TypeId} {size:Nat} {v:Value} {n:Nat} {xs:List Value} (h:w.ownsRow base e size v n xs):Ow.Row w base size v xs:=by
 obtain⟨a,cap,rfl,h1,h2,a',m,c,e0,h3,h4,h5,h6⟩:=Ow.own_form h;simp only[Value.slice.injEq] at e0;obtain⟨rfl,rfl,rfl⟩:=e0;exact⟨a,n,cap,rfl,h3,h1,by unfold maxLen;omega,h6⟩
theorem Row.alloc' {w:World} {base size:Nat} {v:Value} {xs:List Value} (h:Ow.Row w base size v xs) (o:Obj):Ow.Row (w.alloc o) base size v xs:=h.below ((Below.refl _ w).alloc (Nat.le_refl _) o)
theorem fld_busy (l y1 y2 y3 y4 y5 y6 y7 y8:Value) (w:World):(Instr.field 38 (.agg #[y1,l,y2,y3,y4,y5,y6,y7,y8]) 1).run Tryz.prog w=.ok l w:=by rfl
end Go.Proofs.YtbefcdjcefmicaaGreat.Em
namespace Go.Proofs.YtbefcdjcefmicaaGreat.Em
open Go.ChangeShapes Go.WideShapes Go.ChangeAt Go.RowKit Go.Deep
set_option linter.unusedVariables false
set_option linter.unusedSimpArgs false
set_option maxRecDepth 100000
set_option maxHeartbeats 1600000
structure Pk where
 kd:Int
 s:Int
 l:Int
 k:Int
 key:Int
 hi:Int
 v:Int
 deriving Inhabited
def pkCs (p:Pk):List Value:=[zi p.kd,zi p.s,zi p.l,zi p.k,zi p.key,zi p.hi,zi p.v]
def pkV (p:Pk):Value:=.agg (pkCs p).toArray
def PkOk (p:Pk):Prop:=∀ z∈[p.kd,p.s,p.l,p.k,p.key,p.hi,p.v],-9223372036854775808≤z∧z<9223372036854775808
def flatP (l:List Pk):List Value:=l.flatMap pkCs
theorem flatP_length (l:List Pk):(flatP l).length=l.length*7:=by
 induction l with
 |nil=>rfl
 |cons a l ih=>show (pkCs a++flatP l).length=_;rw[List.length_append,ih,List.length_cons];show 7+_=_;omega
section
variable {H:Type} {enc:TypeId×Value→H} {w:World} {base:Nat} {spare:Nat→Bool} {held:Bool}
theorem trod_i64 {fuel:Nat} {c:Value} {x:DataW H×List MemPlace} (h:DataW.trod enc Tryz.prog w base spare held fuel 3 [c]=some x):∃ a,c=zi a∧-9223372036854775808≤a∧a<9223372036854775808:=by
 obtain⟨a,e,_,hw⟩:=DataW.trod_int Tryz.underlying3 h;simp at e;subst e;have:=bounds_i64 hw;exact⟨a,rfl,by omega,by omega⟩
theorem trod_op {fuel:Nat} {c0 c1 c2 c3:Value} {x:DataW H×List MemPlace} (h:DataW.trod enc Tryz.prog w base spare held fuel 31 [c0,c1,c2,c3]=some x):
 ∃ a0 a1 a2 a3,c0=zi a0∧c1=zi a1∧c2=zi a2∧c3=zi a3∧∀ z∈[a0,a1,a2,a3],-9223372036854775808≤z∧z<9223372036854775808:=by
 have hi:Tryz.prog.cellsOf 3=1:=by kernel_rfl
 obtain⟨xs,n,_,_,_,hl,hf⟩:=DataW.trod_struct Tryz.underlying31 h;obtain⟨y,hy⟩:∃ y,xs=y:=⟨_,rfl⟩
 match xs,hl with
 |[y0,y1,y2,y3],_=>
  have f0:DataW.trod enc Tryz.prog w base spare held n 3 (([c0,c1,c2,c3].drop 0).take (Tryz.prog.cellsOf 3))=some y0:=hf 0 _ rfl;rw[hi] at f0;have f1:DataW.trod enc Tryz.prog w base spare held n 3 (([c0,c1,c2,c3].drop 1).take (Tryz.prog.cellsOf 3))=some y1:=hf 1 _ rfl;rw[hi] at f1;have f2:DataW.trod enc Tryz.prog w base spare held n 3 (([c0,c1,c2,c3].drop 2).take (Tryz.prog.cellsOf 3))=some y2:=hf 2 _ rfl;rw[hi] at f2;have f3:DataW.trod enc Tryz.prog w base spare held n 3 (([c0,c1,c2,c3].drop 3).take (Tryz.prog.cellsOf 3))=some y3:=hf 3 _ rfl;rw[hi] at f3;obtain⟨a0,rfl,w0⟩:=trod_i64 f0;obtain⟨a1,rfl,w1⟩:=trod_i64 f1;obtain⟨a2,rfl,w2⟩:=trod_i64 f2;obtain⟨a3,rfl,w3⟩:=trod_i64 f3;refine⟨a0,a1,a2,a3,rfl,rfl,rfl,rfl,?_⟩;intro z hz;simp at hz
  rcases hz with rfl|rfl|rfl|rfl<;>assumption
theorem trod_pick {fuel:Nat} {cs:List Value} {x:DataW H×List MemPlace} (h:DataW.trod enc Tryz.prog w base spare held fuel 97 cs=some x):∃ e:Pk,cs=pkCs e∧PkOk e:=by
 have hi:Tryz.prog.cellsOf 3=1:=by kernel_rfl
 have ho:Tryz.prog.cellsOf 31=4:=by kernel_rfl
 have he:Tryz.prog.cellsOf 97=7:=by kernel_rfl
 obtain⟨xs,n,_,_,hc,hl,hf⟩:=DataW.trod_struct Tryz.underlying97 h;rw[he] at hc
 match cs,hc with
 |[c0,c1,c2,c3,c4,c5,c6],_=>
  match xs,hl with
  |[y0,y1,y2,y3],_=>
   have f0:DataW.trod enc Tryz.prog w base spare held n 3 (([c0,c1,c2,c3,c4,c5,c6].drop 0).take (Tryz.prog.cellsOf 3))=some y0:=hf 0 _ rfl;rw[hi] at f0;have f1:DataW.trod enc Tryz.prog w base spare held n 3 (([c0,c1,c2,c3,c4,c5,c6].drop 1).take (Tryz.prog.cellsOf 3))=some y1:=hf 1 _ rfl;rw[hi] at f1;have f2:DataW.trod enc Tryz.prog w base spare held n 3 (([c0,c1,c2,c3,c4,c5,c6].drop 2).take (Tryz.prog.cellsOf 3))=some y2:=hf 2 _ rfl;rw[hi] at f2;have f3:DataW.trod enc Tryz.prog w base spare held n 31 (([c0,c1,c2,c3,c4,c5,c6].drop 3).take (Tryz.prog.cellsOf 31))=some y3:=hf 3 _ rfl;rw[ho] at f3;obtain⟨a0,rfl,w0⟩:=trod_i64 f0;obtain⟨a1,rfl,w1⟩:=trod_i64 f1;obtain⟨a2,rfl,w2⟩:=trod_i64 f2;obtain⟨a3,a4,a5,a6,rfl,rfl,rfl,rfl,w3⟩:=trod_op f3;refine⟨⟨a0,a1,a2,a3,a4,a5,a6⟩,rfl,?_⟩;intro z hz;simp at hz
   rcases hz with rfl|rfl|rfl|rfl|rfl|rfl|rfl
   · exact w0
   · exact w1
   · exact w2
   · exact w3 _ (by simp)
   · exact w3 _ (by simp)
   · exact w3 _ (by simp)
   · exact w3 _ (by simp)
theorem open_pick {r:Reach} {b0:Nat} {v:Value} {d:DataW H} {p:List MemPlace} (hv:Value.okWide Tryz.prog w r b0 97 v) (h:DataW.Trod enc Tryz.prog w base spare held 97 v d p):∃ e:Pk,v=pkV e∧PkOk e:=by
 obtain⟨cs,rfl,_⟩:=okWide_struct Tryz.underlying97 hv;obtain⟨fuel,hf⟩:=h;obtain⟨e,he,hi⟩:=trod_pick hf;refine⟨e,?_,hi⟩;have:cs.toList=pkCs e:=he;show Value.agg cs=_;rw[show cs=(pkCs e).toArray from by rw[←this]];rfl
theorem flatP_get (f:Nat→Pk) (n:Nat):∀ i,i<n→∀ j,j<7→(flatP ((List.range n).map f))[i*7+j]? =(pkCs (f i))[j]? :=by
 intro i hi j hj;have key:∀ (l:List Pk) (i:Nat) (e:Pk),l[i]? =some e→(flatP l)[i*7+j]? =(pkCs e)[j]? :=by
  intro l
  induction l with
  |nil=>intro i e h;simp at h
  |cons e0 l ih=>
   intro i e h;show (pkCs e0++flatP l)[i*7+j]? =_
   cases i with
   |zero=>
    simp at h;subst h;rw[List.getElem?_append_left (by show 0*7+j<7;omega)];simp
   |succ i=>
    rw[List.getElem?_append_right (by show 7≤_;omega)];rw[show (i+1)*7+j - (pkCs e0).length=i*7+j from by show _ - 7=_;omega];exact ih i e (by simpa using h)
 exact key _ i (f i) (by simp[hi])
theorem open_picks {r:Reach} {b0:Nat} {v:Value} {d:DataW H} {p:List MemPlace} (hv:Value.okWide Tryz.prog w r b0 94 v) (h:DataW.Trod enc Tryz.prog w base spare held 94 v d p):
 ∃ es:List Pk,Ow.Row w 0 7 v (flatP es)∧∀ e∈es,PkOk e:=by
 have hc7:Tryz.prog.cellsOf 97=7:=by kernel_rfl
 obtain⟨a,len,cap,rfl⟩:=okWide_slice Tryz.underlying94 hv;obtain⟨fuel,hf⟩:=h
 rcases open_slice Tryz.underlying94 hf with ⟨h0,_⟩|⟨ad,len',cap',m,n,D,Pl,hcs,hb,hl,hm,hmm,_,hi⟩
 · simp[Value.cells] at h0
   obtain⟨rfl,rfl,rfl⟩:=h0;exact⟨[],⟨none,0,0,rfl,rfl,by omega,by unfold maxLen;omega,.inl rfl⟩,by simp⟩
 · simp[Value.cells] at hcs
   obtain⟨rfl,rfl,rfl⟩:=hcs;have hle:len≤m:=by rw[hmm];split<;>omega
   have hex:∀ i,∃ e:Pk,i<len→(∀ j,j<7→w.cell? (ad.add (i*7+j))=(pkCs e)[j]?)∧PkOk e:=by
    intro i
    by_cases hil:i<len
    · obtain⟨cs',hcells,htr⟩:=hi i (by omega)
      rw[hc7] at hcells;obtain⟨e,rfl,he⟩:=trod_pick htr;obtain⟨_,_,hat⟩:=World.cells?_some hcells;refine⟨e,fun _=>⟨fun j hj=>?_,he⟩⟩;rw[←add_add];exact hat j hj
    · exact⟨(default:Pk),fun h=>absurd h hil⟩
   obtain⟨f,hf'⟩:=Classical.axiomOfChoice hex;refine⟨(List.range len).map f,⟨some ad,len,cap,rfl,by rw[flatP_length];simp,hl,hm,?_⟩,?_⟩
   · by_cases h0:len=0
     · exact .inl h0
     · right
       obtain⟨b,off,spot⟩:=ad;have hc0:=(hf' 0 (by omega)).1 0 (by omega);have hcell0:w.cell? ((⟨b,off,spot⟩:Addr).add (0*7+0))=some (zi (f 0).kd):=hc0;have hspot:spot=none:=by simpa [Addr.add] using World.cell?_spot hcell0
       subst hspot;have hadd:∀ i,(⟨b,off,none⟩:Addr).add i=⟨b,off+i,none⟩:=by
        intro i;unfold Addr.add;split
        · rename_i h;subst h;rfl
        · rfl
       refine⟨b,off,rfl,by omega,World.block_lt_of_cell? w ⟨b,off,none⟩ (by simpa [Addr.add] using hcell0),fun j hj=>?_⟩;have hd:j=(j / 7)*7+j % 7:=by omega
       rw[←hadd j,hd,flatP_get f len (j / 7) (by omega) (j % 7) (by omega)];exact (hf' (j / 7) (by omega)).1 (j % 7) (by omega)
   · intro e he
     rw[List.mem_map] at he;obtain⟨i,hi',rfl⟩:=he;exact (hf' i (by simpa using hi')).2
end
end Go.Proofs.YtbefcdjcefmicaaGreat.Em
