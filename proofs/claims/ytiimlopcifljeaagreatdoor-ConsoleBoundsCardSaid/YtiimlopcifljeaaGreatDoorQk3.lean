import Derived.Laws.AppendOwnNone
import Derived.ArgAppend
import Derived.Test.YtiimlopcifljeaaGreatDoorQk2
import Derived.Deep.QuietTactic
import Derived.BigQuiet
import Derived.StillTailTactics
import Derived.Test.YtiimlopcifljeaaGreatDoorQk1
import Derived.Deep.RegionHeld3
import Derived.Deep.RegionLaw
import Derived.MapKept
import Derived.Laws.EntriesVeiled
import Derived.Laws.LoneSync
namespace Go.Proofs.YtiimlopcifljeaaGreatDoor.Ow
open Go.ChangeShapes Go.WideShapes Go.ChangeAt Go.RowKit
set_option linter.unusedVariables false
set_option linter.unusedSimpArgs false
set_option maxRecDepth 100000
set_option maxHeartbeats 1600000
theorem own_below {w w1:World} {base:Nat} {e:TypeId} {size:Nat} {v:Value} {n:Nat} {xs:List Value} (h:w.ownsRow base e size v n xs) (hb:Below w.heap.size w w1):w1.ownsRow base e size v n xs:=by
 refine⟨h.1,?_⟩
 rcases h.2 with h0|⟨g,cap,cur,h1,h2,h3,h4⟩
 · exact .inl h0
 · refine .inr ⟨g,cap,cur,h1,h2,?_,h4⟩
   have hlt:g<w.heap.size:=(Array.getElem?_eq_some_iff.1 h3).1;rw[hb.block g hlt,h3]
def Row (w:World) (base size:Nat) (v:Value) (xs:List Value):Prop:=
 ∃ a n cap,v=.slice a n cap∧xs.length=n*size∧n≤cap∧cap≤maxLen∧(n=0∨∃ g off,a=some ⟨g,off,none⟩∧base≤g∧g<w.heap.size∧∀ j,j<n*size→w.cell? ⟨g,off+j,none⟩=xs[j]?)
theorem Row.below {w w1:World} {base size:Nat} {v:Value} {xs:List Value} (h:Row w base size v xs) (hb:Below w.heap.size w w1):Row w1 base size v xs:=by
 obtain⟨a,n,cap,h1,h2,h3,h4,h5⟩:=h;refine⟨a,n,cap,h1,h2,h3,h4,?_⟩
 rcases h5 with h5|⟨g,off,e1,e2,e3,e4⟩
 · exact .inl h5
 · refine .inr ⟨g,off,e1,e2,Nat.lt_of_lt_of_le e3 hb.size,fun j hj=>?_⟩
   rw[hb.cell (p:=⟨g,off+j,none⟩) e3];exact e4 j hj
theorem own_form {w:World} {base:Nat} {e:TypeId} {size:Nat} {v:Value} {n:Nat} {xs:List Value} (h:w.ownsRow base e size v n xs):∃ a cap,v=.slice a n cap∧n≤cap∧cap≤9223372036854775807∧Row w base size (.slice a n n) xs:=by
 rcases h.2 with ⟨h0,hn⟩|⟨g,cap,cur,h1,h2,h3,h4,h5,h6,h7⟩
 · subst hn;exact⟨none,0,h0,by omega,by omega,none,0,0,rfl,h.1,by omega,by unfold maxLen;omega,.inl rfl⟩
 · have hm:=h5
   unfold maxLen at hm;refine⟨some ⟨g,0,none⟩,cap,h1,h4,hm,some ⟨g,0,none⟩,n,n,rfl,h.1,by omega,by omega,.inr ⟨g,0,rfl,h2,(Array.getElem?_eq_some_iff.1 h3).1,fun j hj=>?_⟩⟩;subst h1;rw[Nat.zero_add];exact h.cellAt j hj
theorem new_row (w:World) (cs:List Value) (T:TypeId) (g:Nat) (hg:g=w.heap.size) (j:Nat) (u:Value) (h:cs[j]? =some u):(w.alloc (.cells cs.toArray T)).cell? ((⟨g,0,none⟩:Addr).add j)=some u:=by
 subst hg;have e:(⟨w.heap.size,0,none⟩:Addr).add j=⟨w.heap.size,j,none⟩:=by simp[Addr.add];exact fun h=>h.symm
 rw[e,World.cell?_alloc_at _ _ _ _ rfl]
 simpa using h
theorem run_append_none {P:Program} {w:World} (base:Nat) (t ty e:TypeId) (i:TypeInfo) (size:Nat) (ht:P.underlying t=some (.slice e)) (hi:P.info? e=some i)
 (v:Value) (n c:Nat) (xs:List Value) (hown:w.ownsRow base e size v n xs):
 (Builtin.append_ #[t,t] ty #[v,.slice none 0 c]).run P w=.ok v w:=by
 rcases hown.2 with ⟨rfl,rfl⟩|⟨g,cap,cur,rfl,_,_,hnc,_⟩
 · simp[Builtin.append_,run_underlying ht,sizeOf,typeInfo,hi,Builtin.lenOf,Builtin.firstCells]
 · simp[Builtin.append_,run_underlying ht,sizeOf,typeInfo,hi,Builtin.lenOf,Builtin.firstCells,hnc,storeCells]
theorem wpList_append_row {P:Program} {ops:Array Oper} {rest:List Oper} {o:Oper} {a:Act} {Q:Exit→Act→World→Prop} (w:World) (hgd:o.guard=none) (s x:Operand) (t:TypeId)
 (ho:o.op=.call {callee:=.builtin .append,args:=#[s,x],argTypes:=#[t,t]})
 (base:Nat) (e:TypeId) (i:TypeInfo) (z:Value) (size bytes:Nat) (ht:P.underlying t=some (.slice e)) (hi:P.info? e=some i) (hz:i.zero=some z)
 (hsize:i.size=size) (hby:i.bytes=bytes) (hzs:z.cells.size=size) (hsz:0<size)
 (v:Value) (n:Nat) (xs:List Value) (hs:a.eval s=v) (hown:w.ownsRow base e size v n xs)
 (bx:Nat) (xv:Value) (news:List Value) (hx:a.eval x=xv) (hr:Row w bx size xv news) (m:Nat) (hl:news.length=m*size) (h1:∀ u∈news,u.oneCell'=true)
 (h63:n+m≤maxLen) (hbytes:(n+m)*bytes≤140737488355328) (hbase:base≤w.heap.size)
 (h:∀ v' w',w'.ownsRow base e size v' (n+m) (xs++news)→w.grownBy w' v.ownBlock→wpList P ops Q rest (a.put o.dst v') w'):wpList P ops Q (o::rest) a w:=by
 obtain⟨ao,m',c,rfl,hm',hmc,hcm,hcell⟩:=hr;obtain rfl:m=m':=by
  rw[hl] at hm';exact Nat.eq_of_mul_eq_mul_right hsz hm'
 cases ao with
 |none=>
  have hm0:m=0:=by
   rcases hcell with h0|⟨g,off,h0,_⟩
   · exact h0
   · cases h0
  subst hm0;obtain rfl:news=[]:=List.eq_nil_of_length_eq_zero (by simpa using hl);refine wpList_plain hgd fun K hK=>?_
  have hrun:=run_append_none (P:=P) (w:=w) base t o.type e i size ht hi v n c xs hown;unfold Oper.wp;simp[execOp,ho,resolve,invoke,builtin,hs,hx,hrun,Result.andThen];exact hK _ _ (h v w (by simpa using hown) ⟨rfl,rfl,rfl,Nat.le_refl _,fun _ _ _=>rfl⟩)
 |some ad=>
  have hnews:∀ j u,news[j]? =some u→w.cell? (ad.add j)=some u:=by
   intro j u hj;have hjl:j<news.length:=(List.getElem?_eq_some_iff.1 hj).1
   rcases hcell with h0|⟨g,off,h0,_,_,hc⟩
   · subst h0;omega
   · simp only[Option.some.injEq] at h0
     subst h0;have e1:(⟨g,off,none⟩:Addr).add j=⟨g,off+j,none⟩:=by
      unfold Addr.add;split
      · rename_i h;subst h;rfl
      · rfl
     rw[e1,hc j (by omega)];exact hj
  exact wpList_append_own w hgd s x t ho base e i z size bytes ht hi hz hsize hby hzs hsz v n xs hs hown ad m c news hx hl hnews h1 h63 hbytes hbase fun v' w' h2 h3 _=>h v' w' h2 h3
theorem run_append_row {P:Program} (w:World) (t ty:TypeId) (base:Nat) (e:TypeId) (i:TypeInfo) (z:Value) (size bytes:Nat) (ht:P.underlying t=some (.slice e)) (hi:P.info? e=some i) (hz:i.zero=some z)
 (hsize:i.size=size) (hby:i.bytes=bytes) (hzs:z.cells.size=size) (hsz:0<size)
 (v:Value) (n:Nat) (xs:List Value) (hown:w.ownsRow base e size v n xs)
 (bx:Nat) (xv:Value) (news:List Value) (hr:Row w bx size xv news) (m:Nat) (hl:news.length=m*size) (h1:∀ u∈news,u.oneCell'=true)
 (h63:n+m≤maxLen) (hbytes:(n+m)*bytes≤140737488355328) (hbase:base≤w.heap.size):
 ∃ v' w',(Builtin.append_ #[t,t] ty #[v,xv]).run P w=.ok v' w'∧w'.ownsRow base e size v' (n+m) (xs++news)∧w.grownBy w' v.ownBlock:=by
 obtain⟨ao,m',c,rfl,hm',hmc,hcm,hcell⟩:=hr;obtain rfl:m=m':=by
  rw[hl] at hm';exact Nat.eq_of_mul_eq_mul_right hsz hm'
 cases ao with
 |none=>
  have hm0:m=0:=by
   rcases hcell with h0|⟨g,off,h0,_⟩
   · exact h0
   · cases h0
  subst hm0;obtain rfl:news=[]:=List.eq_nil_of_length_eq_zero (by simpa using hl);exact⟨v,w,run_append_none (P:=P) (w:=w) base t ty e i size ht hi v n c xs hown,by simpa using hown,⟨rfl,rfl,rfl,Nat.le_refl _,fun _ _ _=>rfl⟩⟩
 |some ad=>
  have hnews:∀ j u,news[j]? =some u→w.cell? (ad.add j)=some u:=by
   intro j u hj;have hjl:j<news.length:=(List.getElem?_eq_some_iff.1 hj).1
   rcases hcell with h0|⟨g,off,h0,_,_,hc⟩
   · subst h0;omega
   · simp only[Option.some.injEq] at h0
     subst h0;have e1:(⟨g,off,none⟩:Addr).add j=⟨g,off+j,none⟩:=by
      unfold Addr.add;split
      · rename_i h;subst h;rfl
      · rfl
     rw[e1,hc j (by omega)];exact hj
  obtain⟨v',w',q1,q2,q3,_⟩:=run_append_own (P:=P) w base t ty e i z size bytes ht hi hz hsize hby hzs hsz v n xs hown ad m c news hl hnews h1 h63 hbytes hbase;exact⟨v',w',q1,q2,q3⟩
theorem wp_append_row {P:Program} (w:World) {o:Oper} {a:Act} {K:Act→World→Prop} {Q:Exit→Act→World→Prop} (s x:Operand) (t:TypeId)
 (ho:o.op=.call {callee:=.builtin .append,args:=#[s,x],argTypes:=#[t,t]})
 (base:Nat) (e:TypeId) (i:TypeInfo) (z:Value) (size bytes:Nat) (ht:P.underlying t=some (.slice e)) (hi:P.info? e=some i) (hz:i.zero=some z)
 (hsize:i.size=size) (hby:i.bytes=bytes) (hzs:z.cells.size=size) (hsz:0<size)
 (v:Value) (n:Nat) (xs:List Value) (hs:a.eval s=v) (hown:w.ownsRow base e size v n xs)
 (bx:Nat) (xv:Value) (news:List Value) (hx:a.eval x=xv) (hr:Row w bx size xv news) (m:Nat) (hl:news.length=m*size) (h1:∀ u∈news,u.oneCell'=true)
 (h63:n+m≤maxLen) (hbytes:(n+m)*bytes≤140737488355328) (hbase:base≤w.heap.size)
 (h:∀ v' w',w'.ownsRow base e size v' (n+m) (xs++news)→w.grownBy w' v.ownBlock→K (a.put o.dst v') w'):o.wp P a w K Q:=by
 obtain⟨v',w',hr,h2,h3⟩:=run_append_row (P:=P) w t o.type base e i z size bytes ht hi hz hsize hby hzs hsz v n xs hown bx xv news hr m hl h1 h63 hbytes hbase;unfold Oper.wp execOp;simp only[ho,resolve,invoke,builtin,Sem.run_bind,Sem.run_pure,Result.andThen_ok,List.map_toArray,List.map_cons,List.map_nil,hs,hx,hr];exact h v' w' h2 h3
end Go.Proofs.YtiimlopcifljeaaGreatDoor.Ow
namespace Go.Proofs.YtiimlopcifljeaaGreatDoor.Em
open Go.ChangeShapes Go.WideShapes Go.ChangeAt Go.RowKit En
set_option linter.unusedVariables false
set_option linter.unusedSimpArgs false
set_option maxRecDepth 100000
set_option maxHeartbeats 1600000
variable {A:Book} {σ:St} {w:World}
def Did (A:Book) (w:World) (σ':St) (v:Value):Ending→World→Prop:=fun e w'=>e=.returned v∧Rep A σ' w'∧Grow A.L w A.L w'
theorem at_any (h:Rep A σ w) (i:Nat) (hi:i<σ.words.length) (hc:σ.count<4000000000000000000):
 Calls Tryz.prog 108 #[.pointer (some ⟨A.ba,0,none⟩),zi (i:Int)] w fun e w'=>e=.returned (.pointer (some ⟨A.bw,i,none⟩))∧w'=w.setCell ⟨A.ba,1,none⟩ (zi ((σ.count:Int)+1)):=by
 have c0:=h.arena 0 rfl;have c1:w.cell? ⟨A.ba,1,none⟩=some (zi (σ.count:Int)):=h.arena 1 rfl;have z1:=h.arenaF 1;generalize hn:σ.words.length=n at*;have b1:(i:Int)<(n:Int):=by omega
 have b2:¬ (n:Int)≤(i:Int):=by omega
 have hadd:=run_call_add (P:=Tryz.prog) Tryz.func176 (by kernel_rfl) (by kernel_rfl) (by kernel_rfl) .i64 (by kernel_rfl) (y:=1) (s:=(σ.count:Int)+1) c1 z1 (by simp[go_sem];rw[IntKind.wrap_i64];omega);clear h hc hn hi;go_enter Tryz.func108,Tryz.ntmps108;go_wp2;go_ret;exact⟨rfl,rfl⟩
theorem load_any (h:Rep A σ w) (i:Nat) (hi:i<σ.words.length) (hc:σ.count<4000000000000000000):
 Calls Tryz.prog 66 #[.pointer (some ⟨A.ba,0,none⟩),zi (i:Int)] w (Did A w σ.tick (zu (σ.word i:Int))):=by
 obtain⟨h1,g1⟩:=h.tick;have c2:=h1.word (i:=i) hi;have hl:=run_call_load (P:=Tryz.prog) Tryz.func148 (by kernel_rfl) (by kernel_rfl) (by kernel_rfl) .u64 (by kernel_rfl) c2;have hat:=at_any h i hi hc;have H:=zH h1;have G:=zH g1;clear h1 g1 h hi hc;have e1:σ.tick.word i=σ.word i:=rfl;rw[e1] at hl c2;clear e1;generalize σ.word i=x at*;go_enter Tryz.func66,Tryz.ntmps66;go_wp2_with (first|(go_at_call 108;refine hat.mono ?_;rintro e w' ⟨rfl,rfl⟩)|(go_at_call 109;go_in));go_ret;exact⟨rfl,H.out,G.out⟩
theorem store_any (h:Rep A σ w) (i n:Nat) (hi:i<σ.words.length) (hc:σ.count<4000000000000000000):
 Calls Tryz.prog 71 #[.pointer (some ⟨A.ba,0,none⟩),zi (i:Int),zu (n:Int)] w (Did A w (σ.put i n) (.tuple #[])):=by
 obtain⟨h1,g1⟩:=h.tick;obtain⟨h2,g2⟩:=h.put i n;have c2:=h1.word (i:=i) hi;have z2:=h1.wordF i;have hl:=run_call_store (P:=Tryz.prog) Tryz.func150 (by kernel_rfl) (by kernel_rfl) (by kernel_rfl) (by kernel_rfl) (k:=.u64) (y:=(n:Int)) c2 z2;have hat:=at_any h i hi hc;have H:=zH h2;have G:=zH g2;clear h1 g1 h2 g2 h hi hc;generalize (n:Int)=y at*;go_enter Tryz.func71,Tryz.ntmps71;go_wp2_with (first|(go_at_call 108;refine hat.mono ?_;rintro e w' ⟨rfl,rfl⟩)|(go_at_call 111;go_in))
 go_end0
 go_wp2
 go_end0
 exact⟨rfl,H.out,G.out⟩
theorem cas_any (h:Rep A σ w) (i o n:Nat) (hi:i<σ.words.length) (hc:σ.count<4000000000000000000):
 Calls Tryz.prog 69 #[.pointer (some ⟨A.ba,0,none⟩),zi (i:Int),zu (o:Int),zu (n:Int)] w (Did A w (σ.cas i o n) (.bool (σ.word i==o))):=by
 obtain⟨h1,g1⟩:=h.tick;obtain⟨h2,g2⟩:=h.put i n;have c2:=h1.word (i:=i) hi;have z2:=h1.wordF i;have e1:σ.tick.word i=σ.word i:=rfl;rw[e1] at c2;have hat:=at_any h i hi hc
 by_cases hx:σ.word i=o
 · have e2:σ.cas i o n=σ.put i n:=if_pos hx
   have e3:(σ.word i==o)=true:=by simp[hx]
   rw[e2,e3];rw[hx] at c2;have hl:=run_call_cas_hit (P:=Tryz.prog) Tryz.func149 (by kernel_rfl) (by kernel_rfl) (by kernel_rfl) .u64 (by kernel_rfl) (y:=(n:Int)) c2 z2;have H:=zH h2;have G:=zH g2;clear h1 g1 h2 g2 h hi hc hx e1 e2 e3;generalize (n:Int)=y at*;generalize (o:Int)=z at*;go_enter Tryz.func69,Tryz.ntmps69;go_wp2_with (first|(go_at_call 108;refine hat.mono ?_;rintro e w' ⟨rfl,rfl⟩)|(go_at_call 110;go_in));go_ret;exact⟨rfl,H.out,G.out⟩
 · have e2:σ.cas i o n=σ.tick:=if_neg hx
   have e3:(σ.word i==o)=false:=by simp[hx]
   rw[e2,e3];have hl:=run_call_cas_miss (P:=Tryz.prog) Tryz.func149 (by kernel_rfl) (by kernel_rfl) (by kernel_rfl) .u64 (by kernel_rfl) (o:=(o:Int)) (y:=(n:Int)) c2 z2 (by omega);have H:=zH h1;have G:=zH g1;clear h1 g1 h2 g2 h hi hc e1 e2 e3;generalize (n:Int)=y at*;generalize (o:Int)=z at*;go_enter Tryz.func69,Tryz.ntmps69;go_wp2_with (first|(go_at_call 108;refine hat.mono ?_;rintro e w' ⟨rfl,rfl⟩)|(go_at_call 110;go_in));go_ret;exact⟨rfl,H.out,G.out⟩
theorem count_any (h:Rep A σ w) (hc:σ.count<4000000000000000000):
 Calls Tryz.prog 112 #[.pointer (some ⟨A.ba,0,none⟩)] w fun e w'=>e=.returned (zi (σ.count:Int))∧w=w':=by
 have c1:w.cell? ⟨A.ba,1,none⟩=some (zi (σ.count:Int)):=h.arena 1 rfl;have hl:=run_call_load (P:=Tryz.prog) Tryz.func177 (by kernel_rfl) (by kernel_rfl) (by kernel_rfl) .i64 (by kernel_rfl) c1;clear h hc;go_enter Tryz.func112,Tryz.ntmps112;go_wp2;go_ret;exact⟨rfl,rfl⟩
theorem peek_any (h:Rep A σ w) (i:Nat) (hi:i<σ.words.length):
 Calls Tryz.prog 78 #[.pointer (some ⟨A.ba,0,none⟩),zi (i:Int)] w fun e w'=>e=.returned (zu (σ.word i:Int))∧∃ n,w'=w.drewN n:=by
 have c0:=h.arena 0 rfl;have c2:=h.word (i:=i) hi;have hl:=run_call_load (P:=Tryz.prog) Tryz.func148 (by kernel_rfl) (by kernel_rfl) (by kernel_rfl) .u64 (by kernel_rfl) c2;generalize hn:σ.words.length=n at*;have b1:(i:Int)<(n:Int):=by omega
 have b2:¬ (n:Int)≤(i:Int):=by omega
 clear h hn hi;go_enter Tryz.func78,Tryz.ntmps78;go_wp2;go_ret;exact⟨rfl,0,rfl⟩
theorem wslot_cast {l w:Nat} (h1:1≤l % 131072):((wslot l w:Nat):Int)=73+((l:Int) % 131072 - 1)*3+(w:Int):=by
 unfold wslot slotOf;omega
theorem slot_any (l k:Nat) (h1:1≤l % 131072) (h2:l % 131072≤256) (hl:l<18446744073709551616) (hk:k≤2) (w:World):
 Calls Tryz.prog 79 #[zu (l:Int),zi (k:Int)] w fun e w'=>e=.returned (zi ((wslot l k:Nat):Int))∧w=w':=by
 rw[wslot_cast h1];have hu:=Word.unlink_any (l:Int) (by omega) (by omega) w;generalize hi:(l:Int) % 131072 - 1=i at*;have b1:0≤i:=by omega
 have b2:i≤255:=by omega
 generalize hj:(k:Int)=j at*;have b3:0≤j:=by omega
 have b4:j≤2:=by omega
 have HU:=zH hu;clear h1 h2 hl hk hi hj hu;go_enter Tryz.func79,Tryz.ntmps79;go_wp2_with (go_at_call 117;refine HU.out.mono ?_;rintro e w' ⟨rfl,rfl⟩);go_ret;exact⟨rfl,rfl⟩
theorem place_any (h:Rep A σ w) (id:Nat) (hid:id≤65535):
 Calls Tryz.prog 72 #[.pointer (some ⟨A.be,0,none⟩),zi (id:Int)] w fun e w'=>e=.returned (zi ((σ.place id:Nat):Int))∧w=w':=by
 have c0:w.cell? ⟨A.be,0,none⟩=some (zi (σ.slots:Int)):=h.eng 0 rfl;have hsl:=h.sl;have e:((σ.place id:Nat):Int)=73+(σ.slots:Int)*3+(id:Int):=by unfold St.place;omega
 rw[e];clear e;generalize hs:(σ.slots:Int)=s at*;have b1:1≤s:=by omega
 have b2:s≤256:=by omega
 generalize hj:(id:Int)=j at*;have b3:0≤j:=by omega
 have b4:j≤65535:=by omega
 clear h hsl hs hj hid;go_enter Tryz.func72,Tryz.ntmps72;go_wp2;go_ret;exact⟨rfl,rfl⟩
theorem pack_any (st en:Nat) (h1:st<8) (h2:en<1152921504606846976) (w:World):
 Calls Tryz.prog 73 #[zi (st:Int),zu (en:Int)] w fun e w'=>e=.returned (zu ((pack st en:Nat):Int))∧w=w':=by
 have e:((pack st en:Nat):Int)=(en:Int)*8+(st:Int):=by unfold pack;omega
 rw[e];clear e;have eo:=Bt.u64_or3 (en:Int) (st:Int) (by omega) (by omega) (by omega) (by omega);have ew:IntKind.u64.wrap (st:Int)=(st:Int):=by rw[IntKind.wrap_u64];omega
 have es:IntKind.u64.wrap ((en:Int)*8)=(en:Int)*8:=by rw[IntKind.wrap_u64];omega
 generalize hs:(en:Int)=s at*;have b1:0≤s:=by omega
 have b2:s<1152921504606846976:=by omega
 generalize hj:(st:Int)=j at*;have b3:0≤j:=by omega
 have b4:j<8:=by omega
 clear hs hj h1 h2;go_enter Tryz.func73,Tryz.ntmps73;go_wp2;go_ret;exact⟨rfl,rfl⟩
theorem pack_still (s e:Int) (st en:Nat) (hs:(st:Int)=s) (he:(en:Int)=e) (h1:st<8) (h2:en<1152921504606846976) (w:World):
 Calls Tryz.prog 73 #[zi s,zu e] w fun e w'=>e=.returned (zu ((pack st en:Nat):Int))∧w'=w:=by
 subst hs he;exact (pack_any st en h1 h2 w).mono fun _ _ h=>⟨h.1,h.2.symm⟩
theorem unpack_any (x:Nat) (hx:x<18446744073709551616) (w:World):
 Calls Tryz.prog 119 #[zu (x:Int)] w fun e w'=>e=.returned (.tuple #[zi ((stateOf x:Nat):Int),zu ((endOf x:Nat):Int)])∧w=w':=by
 have e1:((stateOf x:Nat):Int)=(x:Int) % 8:=by unfold stateOf;omega
 have e2:((endOf x:Nat):Int)=(x:Int) / 8:=by unfold endOf;omega
 rw[e1,e2];clear e1 e2;have ea:=Bt.u64_and7 (x:Int);have b0:0≤(x:Int):=by omega
 have b1:(x:Int)<18446744073709551616:=by omega
 have ew:IntKind.i64.wrap ((x:Int) % 8)=(x:Int) % 8:=by rw[IntKind.wrap_i64];omega
 generalize hs:(x:Int)=s at*;clear hs hx;go_enter Tryz.func119,Tryz.ntmps119;go_wp2
 go_ret2
 exact⟨rfl,rfl⟩
theorem clock_any (t id:Nat) (h1:t<281474976710656) (h2:id<65536) (w:World):
 Calls Tryz.prog 70 #[zu (t:Int),zi (id:Int)] w fun e w'=>e=.returned (zu ((clockW t id:Nat):Int))∧w=w':=by
 have e:((clockW t id:Nat):Int)=(t:Int)*65536+(id:Int):=by unfold clockW;omega
 rw[e];clear e;have eo:=Bt.u64_or16 (t:Int) (id:Int) (by omega) (by omega) (by omega) (by omega);have ew:IntKind.u64.wrap (id:Int)=(id:Int):=by rw[IntKind.wrap_u64];omega
 have es:IntKind.u64.wrap ((t:Int)*65536)=(t:Int)*65536:=by rw[IntKind.wrap_u64];omega
 generalize hs:(t:Int)=s at*;have b1:0≤s:=by omega
 have b2:s<281474976710656:=by omega
 generalize hj:(id:Int)=j at*;have b3:0≤j:=by omega
 have b4:j<65536:=by omega
 clear hs hj h1 h2;go_enter Tryz.func70,Tryz.ntmps70;go_wp2;go_ret;exact⟨rfl,rfl⟩
theorem drawn_any (x:Nat) (hx:x<18446744073709551616) (w:World):
 Calls Tryz.prog 67 #[zu (x:Int)] w fun e w'=>e=.returned (.tuple #[zu ((timeOf x:Nat):Int),zi ((lastOf x:Nat):Int)])∧w=w':=by
 have e1:((lastOf x:Nat):Int)=(x:Int) % 65536:=by unfold lastOf;omega
 have e2:((timeOf x:Nat):Int)=(x:Int) / 65536:=by unfold timeOf;omega
 rw[e1,e2];clear e1 e2;have ea:=Bt.u64_and65535 (x:Int);have b0:0≤(x:Int):=by omega
 have b1:(x:Int)<18446744073709551616:=by omega
 have ew:IntKind.i64.wrap ((x:Int) % 65536)=(x:Int) % 65536:=by rw[IntKind.wrap_i64];omega
 generalize hs:(x:Int)=s at*;clear hs hx;go_enter Tryz.func67,Tryz.ntmps67;go_wp2
 go_ret2
 exact⟨rfl,rfl⟩
theorem help_any (h:Rep A σ w) (x:Nat) (hx:x<18446744073709551616) (hi:lastOf x≤2000) (hc:σ.count<4000000000000000000):
 Calls Tryz.prog 68 #[.pointer (some ⟨A.be,0,none⟩),zu (x:Int)] w (Did A w (σ.help x) (.tuple #[])):=by
 have c2:w.cell? ⟨A.be,2,none⟩=some (.pointer (some ⟨A.ba,0,none⟩)):=h.eng 2 rfl;have k1:=drawn_any x hx w;have k2:=(place_any h.drew (lastOf x) (by omega)).mono fun e w' h=>(⟨h.1,h.2.symm⟩:_∧w'=w.drew)
 have k3:=pack_still 1 0 1 0 rfl rfl (by omega) (by omega) w.drew;have k4:=pack_still 2 (timeOf x) 2 (timeOf x) rfl rfl (by omega) (by unfold timeOf;omega) w.drew;have k5:=cas_any h (σ.place (lastOf x)) (pack 1 0) (pack 2 (timeOf x)) (by rw[h.nw];unfold St.place;omega) hc;have K1:=zH k1;have K2:=zH k2;have K3:=zH k3;have K4:=zH k4;clear k5;have k6:=cas_any h.drew (σ.place (lastOf x)) (pack 1 0) (pack 2 (timeOf x)) (by rw[h.nw];unfold St.place;omega) hc;have G0:Grow A.L w A.L w.drew:=Grow.drew _ _;have K5:=zH k6;have HG:=zH G0;clear k1 k2 k3 k4 k6 h hx hi hc G0;go_enter Tryz.func68,Tryz.ntmps68;go_wp2_with (go_at_call 67;refine K1.out.mono ?_;rintro e w' ⟨rfl,rfl⟩);refine wp_region_still_tail 10 (by kernel_rfl) (by kernel_rfl) ?_;simp only[zta,ztb,ztc,ztd]
 repeat still_step
 still_call K2.out
 still_call K3.out
 repeat still_step
 still_call K4.out
 refine wpStill_nil ?_;change wpList _ _ _ _ _ w.drew;generalize w.drew=w2 at*;go_wp2_with (go_at_call 69;refine K5.out.mono ?_;rintro e w' ⟨rfl,hR,hG⟩)
 go_end0
 exact⟨rfl,hR,HG.out.trans hG⟩
def SRep (e:Nat) (L:Lab) (w:World) (v:Value):Option S→Prop
 |none=>v=.nilFunc
 |some .now=>v=.func (.func 115) #[ptr e] #[]
 |some (.live s)=>∃ b0 b1,v=.func (.func 180) #[] #[ptr b0,ptr b1]∧Box L w b0 (ptr e)∧Box L w b1 (i64 s)
 |some (.head key)=>∃ b0 b1,v=.func (.func 216) #[] #[ptr b0,ptr b1]∧Box L w b0 (ptr e)∧Box L w b1 (i64 key)
 |some (.visit key ahead link)=>∃ b0 b1 b2 b3,v=.func (.func 257) #[] #[ptr b0,ptr b1,ptr b2,ptr b3]∧Box L w b0 (ptr e)∧Box L w b1 (u64 link)∧Box L w b2 (i64 key)∧Box L w b3 (u64 ahead)
 |some (.maker key ahead link id)=>∃ b0 b1 b2 b3 b4,v=.func (.func 289) #[] #[ptr b0,ptr b1,ptr b2,ptr b3,ptr b4]∧Box L w b0 (ptr e)∧Box L w b1 (i64 id)∧Box L w b2 (i64 key)∧Box L w b3 (u64 ahead)∧Box L w b4 (u64 link)
 |some (.garbage key ahead link b)=>∃ b0 b1 b2 b3 b4,v=.func (.func 292) #[] #[ptr b0,ptr b1,ptr b2,ptr b3,ptr b4]∧Box L w b0 (u64 b)∧Box L w b1 (ptr e)∧Box L w b2 (u64 link)∧Box L w b3 (i64 key)∧Box L w b4 (u64 ahead)
 |some (.on key link)=>∃ b0 b1 b2,v=.func (.func 311) #[] #[ptr b0,ptr b1,ptr b2]∧Box L w b0 (ptr e)∧Box L w b1 (i64 key)∧Box L w b2 (u64 link)
 |some (.unlink key ahead link)=>∃ b0 b1 b2 b3,v=.func (.func 309) #[] #[ptr b0,ptr b1,ptr b2,ptr b3]∧Box L w b0 (ptr e)∧Box L w b1 (u64 link)∧Box L w b2 (i64 key)∧Box L w b3 (u64 ahead)
 |some (.cut key ahead link nx)=>∃ b0 b1 b2 b3 b4,v=.func (.func 323) #[] #[ptr b0,ptr b1,ptr b2,ptr b3,ptr b4]∧Box L w b0 (u64 ahead)∧Box L w b1 (ptr e)∧Box L w b2 (u64 nx)∧Box L w b3 (i64 key)∧Box L w b4 (u64 link)
theorem SRep.grow {e:Nat} {L L':Lab} {w w':World} {v:Value} (g:Grow L w L' w'):∀ {k:Option S},SRep e L w v k→SRep e L' w' v k
 |none,h=>h
 |some .now,h=>h
 |some (.live s),h=>let ⟨b0,b1,e,k0,k1⟩:=h;⟨b0,b1,e,k0.grow g,k1.grow g⟩
 |some (.head key),h=>let ⟨b0,b1,e,k0,k1⟩:=h;⟨b0,b1,e,k0.grow g,k1.grow g⟩
 |some (.visit key ahead link),h=>let ⟨b0,b1,b2,b3,e,k0,k1,k2,k3⟩:=h;⟨b0,b1,b2,b3,e,k0.grow g,k1.grow g,k2.grow g,k3.grow g⟩
 |some (.maker key ahead link id),h=>let ⟨b0,b1,b2,b3,b4,e,k0,k1,k2,k3,k4⟩:=h;⟨b0,b1,b2,b3,b4,e,k0.grow g,k1.grow g,k2.grow g,k3.grow g,k4.grow g⟩
 |some (.garbage key ahead link b),h=>let ⟨b0,b1,b2,b3,b4,e,k0,k1,k2,k3,k4⟩:=h;⟨b0,b1,b2,b3,b4,e,k0.grow g,k1.grow g,k2.grow g,k3.grow g,k4.grow g⟩
 |some (.on key link),h=>let ⟨b0,b1,b2,e,k0,k1,k2⟩:=h;⟨b0,b1,b2,e,k0.grow g,k1.grow g,k2.grow g⟩
 |some (.unlink key ahead link),h=>let ⟨b0,b1,b2,b3,e,k0,k1,k2,k3⟩:=h;⟨b0,b1,b2,b3,e,k0.grow g,k1.grow g,k2.grow g,k3.grow g⟩
 |some (.cut key ahead link nx),h=>let ⟨b0,b1,b2,b3,b4,e,k0,k1,k2,k3,k4⟩:=h;⟨b0,b1,b2,b3,b4,e,k0.grow g,k1.grow g,k2.grow g,k3.grow g,k4.grow g⟩
def cutPs (l:List (Nat×Nat)):List Value:=l.flatMap fun p=>[u64 p.1,i64 p.2]
def CutOk (A:Book) (l:List (Nat×Nat)):Prop:=
 (A.hcut=false∧A.vcut=.slice none 0 0∧l=[])∨
 (A.hcut=true∧∃ k cap,A.vcut=.slice (some ⟨A.gcut,2*k,none⟩) l.length cap∧l.length≤cap∧k+cap≤maxLen∧2*(k+cap)≤A.cutCs.length∧(A.cutCs.drop (2*k)).take (2*l.length)=cutPs l)
structure SwRep (A:Book) (σ:St) (w:World):Prop where
 sw:SRep A.be A.L w (A.sv σ.sw) σ.sw
 cu:CutOk A σ.cut
def Book.bef (A:Book):Nat×(Value×Value×Bool×Nat×List Value):=(A.be,A.swf)
theorem bef_be {A A':Book} (h:A'.bef=A.bef):A'.be=A.be:=congrArg (·.1) h
theorem bef_sv {A A':Book} (h:A'.bef=A.bef) (x:Option S):A'.sv x=A.sv x:=by
 have:A'.vsweep=A.vsweep:=congrArg (·.2.1) h;unfold Book.sv;rw[this]
theorem CutOk.keep {A A':Book} {l:List (Nat×Nat)} (h:CutOk A l) (e:A'.bef=A.bef):CutOk A' l:=by
 have c1:A'.vcut=A.vcut:=congrArg (·.2.2.1) e;have c2:A'.hcut=A.hcut:=congrArg (·.2.2.2.1) e;have c3:A'.gcut=A.gcut:=congrArg (·.2.2.2.2.1) e;have c4:A'.cutCs=A.cutCs:=congrArg (·.2.2.2.2.2) e;unfold CutOk;rw[c1,c2,c3,c4];exact h
theorem SwRep.keep {A A':Book} {σ σ':St} {w w':World} (h:SwRep A σ w) (e:A'.bef=A.bef) (hs:σ'.sw=σ.sw∧σ'.cut=σ.cut) (g:Grow A.L w A'.L w'):SwRep A' σ' w':=
 ⟨by rw[bef_be e,bef_sv e,hs.1];exact h.sw.grow g,by rw[hs.2];exact h.cu.keep e⟩
structure KP where
 e:Nat
 t:Nat
 c:Nat
 x:Nat
 vp:Value
 ps:List (Nat×Nat)
def KP.xo (p:KP) (x:Bool):Value:=if x then ptr p.x else .pointer none
def kp (A:Book) (σ:St) (s:Nat):KP:=⟨A.be,A.bt s,A.bc s,A.bx s (σ.c s).op.key,A.vpairs s,(σ.c s).r.pairs⟩
def resCs (r:Res) (vp:Value):List Value:=[i64 r.e,i64 r.value,vp,i64 r.over,i64 r.reason]
def ResBox (p:KP) (L:Lab) (w:World) (b:Nat) (r:Res):Prop:=∃ vp T,Fix L w b (.cells (resCs r vp).toArray T)∧((vp=p.vp∧r.pairs=p.ps)∨(vp=.slice none 0 0∧r.pairs=[]))
def StampBox (L:Lab) (w:World) (b id:Nat):Prop:=∃ T,Fix L w b (.cells #[i64 2,u64 id] T)
def SeenBox (L:Lab) (w:World) (b link:Nat):Prop:=∃ T key got,Fix L w b (.cells #[i64 key,u64 link,.bool got] T)
def HeadBox (L:Lab) (w:World) (b:Nat) (x:Bool) (head:Nat):Prop:=∃ v,Box L w b v∧FRow L w 1 v (if x then [] else [u64 head])
def trnCs (l:List Trn):List Value:=l.flatMap fun x=>[i64 x.at_,u64 x.old,u64 x.new]
def ListBox (L:Lab) (w:World) (b:Nat) (l:List Trn):Prop:=∃ v,Box L w b v∧FRow L w 3 v (trnCs l)
def TellBox (p:KP) (L:Lab) (w:World) (b key:Nat):Prop:=∃ v,Box L w b v∧∃ c0 c1,v=.func (.func 199) #[] #[ptr c0,ptr c1]∧Box L w c0 (ptr p.c)∧Box L w c1 (i64 key)
def NextBox (p:KP) (L:Lab) (w:World) (b link head at_:Nat):Prop:=∃ v,Box L w b v∧∃ c0 c1 c2 c3 c4 c5,v=.func (.func 283) #[] #[ptr c0,ptr c1,ptr c2,ptr c3,ptr c4,ptr c5]∧Box L w c0 (ptr p.e)∧Box L w c1 (ptr p.t)∧Box L w c2 (ptr p.c)∧Box L w c3 (u64 link)∧Box L w c4 (u64 head)∧Box L w c5 (u64 at_)
def TurnBox (p:KP) (L:Lab) (w:World) (b w1 now:Nat):Prop:=∃ v,Box L w b v∧∃ c0 c1 c2 c3 c4,v=.func (.func 202) #[] #[ptr c0,ptr c1,ptr c2,ptr c3,ptr c4]∧Box L w c0 (ptr p.e)∧Box L w c1 (u64 w1)∧Box L w c2 (u64 now)∧Box L w c3 (ptr p.t)∧Box L w c4 (ptr p.c)
def ThnRep (p:KP) (L:Lab) (w:World) (v:Value) (key:Nat):Thn→Prop
 |.get=>∃ b0 b1 b2 b3,v=.func (.func 197) #[] #[ptr b0,ptr b1,ptr b2,ptr b3]∧Box L w b0 (ptr p.t)∧Box L w b1 (i64 key)∧Box L w b2 (ptr p.e)∧Box L w b3 (ptr p.c)
 |.scan k=>∃ b0 b1 b2 b3 b4,v=.func (.func 200) #[] #[ptr b0,ptr b1,ptr b2,ptr b3,ptr b4]∧Box L w b0 (ptr p.t)∧Box L w b1 (i64 k)∧TellBox p L w b2 k∧Box L w b3 (ptr p.e)∧Box L w b4 (ptr p.c)
 |.change=>∃ b0 b1 b2 b3,v=.func (.func 212) #[] #[ptr b0,ptr b1,ptr b2,ptr b3]∧Box L w b0 (ptr p.c)∧Box L w b1 (ptr p.t)∧Box L w b2 (i64 key)∧Box L w b3 (ptr p.e)
 |.judge i l=>∃ b0 b1 b2 b3 b4,v=.func (.func 244) #[] #[ptr b0,ptr b1,ptr b2,ptr b3,ptr b4]∧SeenBox L w b0 l∧Box L w b1 (ptr p.e)∧Box L w b2 (ptr p.t)∧Box L w b3 (ptr p.c)∧Box L w b4 (i64 i)
def HuntAt (p:KP) (L:Lab) (w:World) (bh:Nat) (h:Hunt):Prop:=∃ vt T,Fix L w bh (.cells #[ptr p.e,ptr p.t,i64 h.key,u64 h.at_,vt] T)∧ThnRep p L w vt h.key h.thn
def HuntBox (p:KP) (L:Lab) (w:World) (b:Nat) (h:Hunt):Prop:=∃ bh,Box L w b (ptr bh)∧HuntAt p L w bh h
def KRep (p:KP) (L:Lab) (w:World) (v:Value):K→Prop
 |.start h=>∃ bh,v=.func (.func 241) #[ptr bh] #[]∧HuntAt p L w bh h
 |.fin r=>∃ b0 b1 b2,v=.func (.func 239) #[] #[ptr b0,ptr b1,ptr b2]∧Box L w b0 (ptr p.e)∧Box L w b1 (ptr p.c)∧ResBox p L w b2 r
 |.visit h link=>∃ b0 b1,v=.func (.func 300) #[] #[ptr b0,ptr b1]∧HuntBox p L w b0 h∧Box L w b1 (u64 link)
 |.older h link=>∃ b0 b1,v=.func (.func 334) #[] #[ptr b0,ptr b1]∧HuntBox p L w b0 h∧Box L w b1 (u64 link)
 |.maker h link id=>∃ b0 b1 b2,v=.func (.func 322) #[] #[ptr b0,ptr b1,ptr b2]∧HuntBox p L w b0 h∧Box L w b1 (i64 id)∧Box L w b2 (u64 link)
 |.ended h link mb=>∃ b0 b1 b2,v=.func (.func 331) #[] #[ptr b0,ptr b1,ptr b2]∧HuntBox p L w b0 h∧Box L w b1 (u64 link)∧Box L w b2 (i64 mb)
 |.ender h link mb id=>∃ b0 b1 b2 b3,v=.func (.func 337) #[] #[ptr b0,ptr b1,ptr b2,ptr b3]∧HuntBox p L w b0 h∧Box L w b1 (i64 id)∧Box L w b2 (u64 link)∧Box L w b3 (i64 mb)
 |.seen h link mb=>∃ b0 b1 b2,v=.func (.func 335) #[] #[ptr b0,ptr b1,ptr b2]∧HuntBox p L w b0 h∧Box L w b1 (i64 mb)∧Box L w b2 (u64 link)
 |.again end_=>∃ b0 b1 b2 b3,v=.func (.func 250) #[] #[ptr b0,ptr b1,ptr b2,ptr b3]∧Box L w b0 (ptr p.e)∧Box L w b1 (ptr p.x)∧Box L w b2 (u64 end_)∧Box L w b3 (ptr p.c)
 |.own link=>∃ b0 b1 b2 b3,v=.func (.func 253) #[] #[ptr b0,ptr b1,ptr b2,ptr b3]∧Box L w b0 (ptr p.e)∧Box L w b1 (u64 link)∧Box L w b2 (ptr p.t)∧Box L w b3 (ptr p.c)
 |.ownTxn link w1 id=>∃ b0 b1 b2 b3 b4 b5,v=.func (.func 255) #[] #[ptr b0,ptr b1,ptr b2,ptr b3,ptr b4,ptr b5]∧Box L w b0 (ptr p.e)∧Box L w b1 (i64 id)∧Box L w b2 (ptr p.t)∧Box L w b3 (ptr p.c)∧Box L w b4 (u64 link)∧Box L w b5 (u64 w1)
 |.claim link w1=>∃ b0 b1 b2 b3 b4,v=.func (.func 287) #[] #[ptr b0,ptr b1,ptr b2,ptr b3,ptr b4]∧Box L w b0 (ptr p.e)∧Box L w b1 (u64 link)∧Box L w b2 (u64 w1)∧Box L w b3 (ptr p.t)∧Box L w b4 (ptr p.c)
 |.fresh link=>∃ b0 b1 b2 b3,v=.func (.func 251) #[] #[ptr b0,ptr b1,ptr b2,ptr b3]∧Box L w b0 (ptr p.e)∧Box L w b1 (ptr p.c)∧Box L w b2 (ptr p.t)∧Box L w b3 (u64 link)
 |.next link head at_=>∃ b0 b1 b2 b3 b4 b5,v=.func (.func 283) #[] #[ptr b0,ptr b1,ptr b2,ptr b3,ptr b4,ptr b5]∧Box L w b0 (ptr p.e)∧Box L w b1 (ptr p.t)∧Box L w b2 (ptr p.c)∧Box L w b3 (u64 link)∧Box L w b4 (u64 head)∧Box L w b5 (u64 at_)
 |.free link head at_=>∃ b0 b1 b2 b3 b4 b5,v=.func (.func 284) #[] #[ptr b0,ptr b1,ptr b2,ptr b3,ptr b4,ptr b5]∧Box L w b0 (ptr p.e)∧Box L w b1 (u64 at_)∧Box L w b2 (ptr p.t)∧NextBox p L w b3 link head at_∧Box L w b4 (ptr p.c)∧Box L w b5 (u64 link)
 |.freeTxn link head at_ id=>∃ b0 b1 b2 b3 b4 b5,v=.func (.func 286) #[] #[ptr b0,ptr b1,ptr b2,ptr b3,ptr b4,ptr b5]∧Box L w b0 (ptr p.e)∧StampBox L w b1 id∧Box L w b2 (ptr p.t)∧NextBox p L w b3 link head at_∧Box L w b4 (ptr p.c)∧Box L w b5 (u64 link)
 |.slotB x link head=>∃ b0 b1 b2 b3 b4 b5,v=.func (.func 279) #[] #[ptr b0,ptr b1,ptr b2,ptr b3,ptr b4,ptr b5]∧Box L w b0 (ptr p.e)∧Box L w b1 (u64 link)∧Box L w b2 (ptr p.t)∧Box L w b3 (p.xo x)∧Box L w b4 (ptr p.c)∧HeadBox L w b5 x head
 |.slotE x link head=>∃ b0 b1 b2 b3 b4 b5,v=.func (.func 280) #[] #[ptr b0,ptr b1,ptr b2,ptr b3,ptr b4,ptr b5]∧Box L w b0 (ptr p.e)∧Box L w b1 (u64 link)∧Box L w b2 (p.xo x)∧Box L w b3 (ptr p.t)∧Box L w b4 (ptr p.c)∧HeadBox L w b5 x head
 |.push link head=>∃ b0 b1 b2 b3 b4,v=.func (.func 304) #[] #[ptr b0,ptr b1,ptr b2,ptr b3,ptr b4]∧Box L w b0 (ptr p.e)∧Box L w b1 (u64 link)∧Box L w b2 (u64 head)∧Box L w b3 (ptr p.c)∧Box L w b4 (ptr p.t)
 |.pushC link head=>∃ b0 b1 b2 b3 b4,v=.func (.func 305) #[] #[ptr b0,ptr b1,ptr b2,ptr b3,ptr b4]∧Box L w b0 (ptr p.e)∧Box L w b1 (ptr p.c)∧Box L w b2 (u64 head)∧Box L w b3 (u64 link)∧Box L w b4 (ptr p.t)
 |.over link=>∃ b0 b1 b2 b3 b4,v=.func (.func 306) #[] #[ptr b0,ptr b1,ptr b2,ptr b3,ptr b4]∧Box L w b0 (ptr p.e)∧Box L w b1 (ptr p.c)∧Box L w b2 (u64 link)∧Box L w b3 (ptr p.t)∧Box L w b4 (ptr p.x)
 |.overN link head=>∃ b0 b1 b2 b3 b4 b5,v=.func (.func 307) #[] #[ptr b0,ptr b1,ptr b2,ptr b3,ptr b4,ptr b5]∧Box L w b0 (ptr p.e)∧Box L w b1 (u64 link)∧Box L w b2 (u64 head)∧Box L w b3 (ptr p.c)∧Box L w b4 (ptr p.t)∧Box L w b5 (ptr p.x)
 |.overC link head=>∃ b0 b1 b2 b3 b4 b5,v=.func (.func 308) #[] #[ptr b0,ptr b1,ptr b2,ptr b3,ptr b4,ptr b5]∧Box L w b0 (ptr p.e)∧Box L w b1 (ptr p.c)∧Box L w b2 (u64 head)∧Box L w b3 (u64 link)∧Box L w b4 (ptr p.t)∧Box L w b5 (ptr p.x)
 |.draw=>∃ b0 b1 b2,v=.func (.func 201) #[] #[ptr b0,ptr b1,ptr b2]∧Box L w b0 (ptr p.e)∧Box L w b1 (ptr p.t)∧Box L w b2 (ptr p.c)
 |.drawH w1 now=>∃ b0 b1 b2,v=.func (.func 205) #[] #[ptr b0,ptr b1,ptr b2]∧Box L w b0 (ptr p.e)∧Box L w b1 (u64 w1)∧TurnBox p L w b2 w1 now
 |.turn w1 now=>∃ b0 b1 b2 b3 b4,v=.func (.func 202) #[] #[ptr b0,ptr b1,ptr b2,ptr b3,ptr b4]∧Box L w b0 (ptr p.e)∧Box L w b1 (u64 w1)∧Box L w b2 (u64 now)∧Box L w b3 (ptr p.t)∧Box L w b4 (ptr p.c)
 |.helpJ=>∃ b0 b1 b2,v=.func (.func 203) #[] #[ptr b0,ptr b1,ptr b2]∧Box L w b0 (ptr p.e)∧Box L w b1 (ptr p.t)∧Box L w b2 (ptr p.c)
 |.wait i=>∃ b0 b1 b2 b3 b4,v=.func (.func 277) #[] #[ptr b0,ptr b1,ptr b2,ptr b3,ptr b4]∧Box L w b0 (ptr p.e)∧Box L w b1 (ptr p.t)∧Box L w b2 (i64 i)∧Box L w b3 (ptr p.c)∧Box L w b4 v
 |.turns [] r=>∃ b0 b1 b2 b3,v=.func (.func 247) #[] #[ptr b0,ptr b1,ptr b2,ptr b3]∧Box L w b0 (ptr p.e)∧Box L w b1 (ptr p.t)∧Box L w b2 (ptr p.c)∧ResBox p L w b3 r
 |.turns (x::l) r=>∃ b0 b1 b2 b3 b4,v=.func (.func 248) #[] #[ptr b0,ptr b1,ptr b2,ptr b3,ptr b4]∧ListBox L w b0 (x::l)∧Box L w b1 (ptr p.e)∧Box L w b2 (ptr p.t)∧Box L w b3 (ptr p.c)∧ResBox p L w b4 r
 |.commit=>∃ b0 b1 b2,v=.func (.func 302) #[] #[ptr b0,ptr b1,ptr b2]∧Box L w b0 (ptr p.e)∧Box L w b1 (ptr p.t)∧Box L w b2 (ptr p.c)
 |.abort e reason=>∃ b0 b1 b2 b3 b4,v=.func (.func 206) #[] #[ptr b0,ptr b1,ptr b2,ptr b3,ptr b4]∧Box L w b0 (ptr p.e)∧Box L w b1 (ptr p.t)∧Box L w b2 (i64 reason)∧Box L w b3 (ptr p.c)∧Box L w b4 (i64 e)
section
variable {p:KP} {L L':Lab} {w w':World}
theorem ResBox.grow {b:Nat} {r:Res} (h:ResBox p L w b r) (g:Grow L w L' w'):ResBox p L' w' b r:=let ⟨vp,T,h1,h2⟩:=h;⟨vp,T,h1.grow g,h2⟩
theorem StampBox.grow {b n:Nat} (h:StampBox L w b n) (g:Grow L w L' w'):StampBox L' w' b n:=let ⟨T,h1⟩:=h;⟨T,h1.grow g⟩
theorem SeenBox.grow {b n:Nat} (h:SeenBox L w b n) (g:Grow L w L' w'):SeenBox L' w' b n:=let ⟨T,k,q,h1⟩:=h;⟨T,k,q,h1.grow g⟩
theorem HeadBox.grow {b n:Nat} {x:Bool} (h:HeadBox L w b x n) (g:Grow L w L' w'):HeadBox L' w' b x n:=let ⟨v,h1,h2⟩:=h;⟨v,h1.grow g,h2.grow g⟩
theorem ListBox.grow {b:Nat} {l:List Trn} (h:ListBox L w b l) (g:Grow L w L' w'):ListBox L' w' b l:=let ⟨v,h1,h2⟩:=h;⟨v,h1.grow g,h2.grow g⟩
theorem TellBox.grow {b k:Nat} (h:TellBox p L w b k) (g:Grow L w L' w'):TellBox p L' w' b k:=let ⟨v,h1,c0,c1,e,k0,k1⟩:=h;⟨v,h1.grow g,c0,c1,e,k0.grow g,k1.grow g⟩
theorem NextBox.grow {b l1 l2 l3:Nat} (h:NextBox p L w b l1 l2 l3) (g:Grow L w L' w'):NextBox p L' w' b l1 l2 l3:=let ⟨v,h1,c0,c1,c2,c3,c4,c5,e,k0,k1,k2,k3,k4,k5⟩:=h;⟨v,h1.grow g,c0,c1,c2,c3,c4,c5,e,k0.grow g,k1.grow g,k2.grow g,k3.grow g,k4.grow g,k5.grow g⟩
theorem TurnBox.grow {b l1 l2:Nat} (h:TurnBox p L w b l1 l2) (g:Grow L w L' w'):TurnBox p L' w' b l1 l2:=let ⟨v,h1,c0,c1,c2,c3,c4,e,k0,k1,k2,k3,k4⟩:=h;⟨v,h1.grow g,c0,c1,c2,c3,c4,e,k0.grow g,k1.grow g,k2.grow g,k3.grow g,k4.grow g⟩
theorem ThnRep.grow {v:Value} {key:Nat} {t:Thn} (h:ThnRep p L w v key t) (g:Grow L w L' w'):ThnRep p L' w' v key t:=
 match t,h with
 |.get,hh=>let ⟨b0,b1,b2,b3,e,k0,k1,k2,k3⟩:=hh;⟨b0,b1,b2,b3,e,k0.grow g,k1.grow g,k2.grow g,k3.grow g⟩
 |.scan k,hh=>let ⟨b0,b1,b2,b3,b4,e,k0,k1,k2,k3,k4⟩:=hh;⟨b0,b1,b2,b3,b4,e,k0.grow g,k1.grow g,k2.grow g,k3.grow g,k4.grow g⟩
 |.change,hh=>let ⟨b0,b1,b2,b3,e,k0,k1,k2,k3⟩:=hh;⟨b0,b1,b2,b3,e,k0.grow g,k1.grow g,k2.grow g,k3.grow g⟩
 |.judge i l,hh=>let ⟨b0,b1,b2,b3,b4,e,k0,k1,k2,k3,k4⟩:=hh;⟨b0,b1,b2,b3,b4,e,k0.grow g,k1.grow g,k2.grow g,k3.grow g,k4.grow g⟩
theorem HuntAt.grow {b:Nat} {h:Hunt} (hh:HuntAt p L w b h) (g:Grow L w L' w'):HuntAt p L' w' b h:=let ⟨v,T,h1,h2⟩:=hh;⟨v,T,h1.grow g,h2.grow g⟩
theorem HuntBox.grow {b:Nat} {h:Hunt} (hh:HuntBox p L w b h) (g:Grow L w L' w'):HuntBox p L' w' b h:=let ⟨v,h1,h2⟩:=hh;⟨v,h1.grow g,h2.grow g⟩
theorem KRep.grow {v:Value} {k:K} (h:KRep p L w v k) (g:Grow L w L' w'):KRep p L' w' v k:=
 match k,h with
 |.start _,⟨bh,e,h1⟩=>⟨bh,e,h1.grow g⟩
 |.fin r,hh=>let ⟨b0,b1,b2,e,k0,k1,k2⟩:=hh;⟨b0,b1,b2,e,k0.grow g,k1.grow g,k2.grow g⟩
 |.visit h link,hh=>let ⟨b0,b1,e,k0,k1⟩:=hh;⟨b0,b1,e,k0.grow g,k1.grow g⟩
 |.older h link,hh=>let ⟨b0,b1,e,k0,k1⟩:=hh;⟨b0,b1,e,k0.grow g,k1.grow g⟩
 |.maker h link id,hh=>let ⟨b0,b1,b2,e,k0,k1,k2⟩:=hh;⟨b0,b1,b2,e,k0.grow g,k1.grow g,k2.grow g⟩
 |.ended h link mb,hh=>let ⟨b0,b1,b2,e,k0,k1,k2⟩:=hh;⟨b0,b1,b2,e,k0.grow g,k1.grow g,k2.grow g⟩
 |.ender h link mb id,hh=>let ⟨b0,b1,b2,b3,e,k0,k1,k2,k3⟩:=hh;⟨b0,b1,b2,b3,e,k0.grow g,k1.grow g,k2.grow g,k3.grow g⟩
 |.seen h link mb,hh=>let ⟨b0,b1,b2,e,k0,k1,k2⟩:=hh;⟨b0,b1,b2,e,k0.grow g,k1.grow g,k2.grow g⟩
 |.again end_,hh=>let ⟨b0,b1,b2,b3,e,k0,k1,k2,k3⟩:=hh;⟨b0,b1,b2,b3,e,k0.grow g,k1.grow g,k2.grow g,k3.grow g⟩
 |.own link,hh=>let ⟨b0,b1,b2,b3,e,k0,k1,k2,k3⟩:=hh;⟨b0,b1,b2,b3,e,k0.grow g,k1.grow g,k2.grow g,k3.grow g⟩
 |.ownTxn link w1 id,hh=>let ⟨b0,b1,b2,b3,b4,b5,e,k0,k1,k2,k3,k4,k5⟩:=hh;⟨b0,b1,b2,b3,b4,b5,e,k0.grow g,k1.grow g,k2.grow g,k3.grow g,k4.grow g,k5.grow g⟩
 |.claim link w1,hh=>let ⟨b0,b1,b2,b3,b4,e,k0,k1,k2,k3,k4⟩:=hh;⟨b0,b1,b2,b3,b4,e,k0.grow g,k1.grow g,k2.grow g,k3.grow g,k4.grow g⟩
 |.fresh link,hh=>let ⟨b0,b1,b2,b3,e,k0,k1,k2,k3⟩:=hh;⟨b0,b1,b2,b3,e,k0.grow g,k1.grow g,k2.grow g,k3.grow g⟩
 |.next link head at_,hh=>let ⟨b0,b1,b2,b3,b4,b5,e,k0,k1,k2,k3,k4,k5⟩:=hh;⟨b0,b1,b2,b3,b4,b5,e,k0.grow g,k1.grow g,k2.grow g,k3.grow g,k4.grow g,k5.grow g⟩
 |.free link head at_,hh=>let ⟨b0,b1,b2,b3,b4,b5,e,k0,k1,k2,k3,k4,k5⟩:=hh;⟨b0,b1,b2,b3,b4,b5,e,k0.grow g,k1.grow g,k2.grow g,k3.grow g,k4.grow g,k5.grow g⟩
 |.freeTxn link head at_ id,hh=>let ⟨b0,b1,b2,b3,b4,b5,e,k0,k1,k2,k3,k4,k5⟩:=hh;⟨b0,b1,b2,b3,b4,b5,e,k0.grow g,k1.grow g,k2.grow g,k3.grow g,k4.grow g,k5.grow g⟩
 |.slotB x link head,hh=>let ⟨b0,b1,b2,b3,b4,b5,e,k0,k1,k2,k3,k4,k5⟩:=hh;⟨b0,b1,b2,b3,b4,b5,e,k0.grow g,k1.grow g,k2.grow g,k3.grow g,k4.grow g,k5.grow g⟩
 |.slotE x link head,hh=>let ⟨b0,b1,b2,b3,b4,b5,e,k0,k1,k2,k3,k4,k5⟩:=hh;⟨b0,b1,b2,b3,b4,b5,e,k0.grow g,k1.grow g,k2.grow g,k3.grow g,k4.grow g,k5.grow g⟩
 |.push link head,hh=>let ⟨b0,b1,b2,b3,b4,e,k0,k1,k2,k3,k4⟩:=hh;⟨b0,b1,b2,b3,b4,e,k0.grow g,k1.grow g,k2.grow g,k3.grow g,k4.grow g⟩
 |.pushC link head,hh=>let ⟨b0,b1,b2,b3,b4,e,k0,k1,k2,k3,k4⟩:=hh;⟨b0,b1,b2,b3,b4,e,k0.grow g,k1.grow g,k2.grow g,k3.grow g,k4.grow g⟩
 |.over link,hh=>let ⟨b0,b1,b2,b3,b4,e,k0,k1,k2,k3,k4⟩:=hh;⟨b0,b1,b2,b3,b4,e,k0.grow g,k1.grow g,k2.grow g,k3.grow g,k4.grow g⟩
 |.overN link head,hh=>let ⟨b0,b1,b2,b3,b4,b5,e,k0,k1,k2,k3,k4,k5⟩:=hh;⟨b0,b1,b2,b3,b4,b5,e,k0.grow g,k1.grow g,k2.grow g,k3.grow g,k4.grow g,k5.grow g⟩
 |.overC link head,hh=>let ⟨b0,b1,b2,b3,b4,b5,e,k0,k1,k2,k3,k4,k5⟩:=hh;⟨b0,b1,b2,b3,b4,b5,e,k0.grow g,k1.grow g,k2.grow g,k3.grow g,k4.grow g,k5.grow g⟩
 |.draw,hh=>let ⟨b0,b1,b2,e,k0,k1,k2⟩:=hh;⟨b0,b1,b2,e,k0.grow g,k1.grow g,k2.grow g⟩
 |.drawH w1 now,hh=>let ⟨b0,b1,b2,e,k0,k1,k2⟩:=hh;⟨b0,b1,b2,e,k0.grow g,k1.grow g,k2.grow g⟩
 |.turn w1 now,hh=>let ⟨b0,b1,b2,b3,b4,e,k0,k1,k2,k3,k4⟩:=hh;⟨b0,b1,b2,b3,b4,e,k0.grow g,k1.grow g,k2.grow g,k3.grow g,k4.grow g⟩
 |.helpJ,hh=>let ⟨b0,b1,b2,e,k0,k1,k2⟩:=hh;⟨b0,b1,b2,e,k0.grow g,k1.grow g,k2.grow g⟩
 |.wait i,hh=>let ⟨b0,b1,b2,b3,b4,e,k0,k1,k2,k3,k4⟩:=hh;⟨b0,b1,b2,b3,b4,e,k0.grow g,k1.grow g,k2.grow g,k3.grow g,k4.grow g⟩
 |.turns [] r,hh=>let ⟨b0,b1,b2,b3,e,k0,k1,k2,k3⟩:=hh;⟨b0,b1,b2,b3,e,k0.grow g,k1.grow g,k2.grow g,k3.grow g⟩
 |.turns (x::l) r,hh=>let ⟨b0,b1,b2,b3,b4,e,k0,k1,k2,k3,k4⟩:=hh;⟨b0,b1,b2,b3,b4,e,k0.grow g,k1.grow g,k2.grow g,k3.grow g,k4.grow g⟩
 |.commit,hh=>let ⟨b0,b1,b2,e,k0,k1,k2⟩:=hh;⟨b0,b1,b2,e,k0.grow g,k1.grow g,k2.grow g⟩
 |.abort e reason,hh=>let ⟨b0,b1,b2,b3,b4,e,k0,k1,k2,k3,k4⟩:=hh;⟨b0,b1,b2,b3,b4,e,k0.grow g,k1.grow g,k2.grow g,k3.grow g,k4.grow g⟩
end
structure Stay (A A':Book) (s:Nat):Prop where
 bf:A'.bef=A.bef
 ba:A'.ba=A.ba
 bp:A'.bp=A.bp
 bt:A'.bt=A.bt
 bm:A'.bm=A.bm
 bc:A'.bc=A.bc
 vnext:A'.vnext=A.vnext
 vcall:A'.vcall=A.vcall
 vsweep:A'.vsweep=A.vsweep
 mp:A'.mp=A.mp
 mt:A'.mt=A.mt
 bx:∀ k,k≠s→A'.bx k=A.bx k
 vpairs:∀ k,k≠s→A'.vpairs k=A.vpairs k
theorem Stay.be {A A':Book} {s:Nat} (h:Stay A A' s):A'.be=A.be:=bef_be h.bf
theorem Stay.refl (A:Book) (s:Nat):Stay A A s:=⟨rfl,rfl,rfl,rfl,rfl,rfl,rfl,rfl,rfl,rfl,rfl,fun _ _=>rfl,fun _ _=>rfl⟩
theorem Stay.trans {A B C:Book} {s:Nat} (h:Stay A B s) (k:Stay B C s):Stay A C s:=
 ⟨k.bf.trans h.bf,k.ba.trans h.ba,k.bp.trans h.bp,k.bt.trans h.bt,k.bm.trans h.bm,k.bc.trans h.bc,k.vnext.trans h.vnext,k.vcall.trans h.vcall,k.vsweep.trans h.vsweep,k.mp.trans h.mp,k.mt.trans h.mt,fun j hj=>(k.bx j hj).trans (h.bx j hj),fun j hj=>(k.vpairs j hj).trans (h.vpairs j hj)⟩
def Ran (A:Book) (w:World) (s:Nat) (r:St×Option K):Ending→World→Prop:=fun e w'=>
 ∃ A' v,e=.returned v∧Rep A' r.1 w'∧Grow A.L w A'.L w'∧Stay A A' s∧(match r.2 with|some k=>KRep (kp A' r.1 s) A'.L w' v k|none=>v=.nilFunc)
def Tells (A:Book) (w:World) (s:Nat) (r:St×K):Ending→World→Prop:=fun e w'=>
 ∃ A' v,e=.returned v∧Rep A' r.1 w'∧Grow A.L w A'.L w'∧Stay A A' s∧KRep (kp A' r.1 s) A'.L w' v r.2
structure Kp (A:Book) (w w':World):Prop where
 fix:∀ b o v,A.L b=none→w.cell? ⟨b,o,none⟩=some v→w'.cell? ⟨b,o,none⟩=some v
 ea:w'.cell? ⟨A.be,2,none⟩=some (ptr A.ba)
theorem Kp.of {A A':Book} {σ':St} {w w':World} {s:Nat} (g:Grow A.L w A'.L w') (h:Rep A' σ' w') (st:Stay A A' s):Kp A w w':=
 ⟨fun b o v hl hc=>(World.cell?_of_block (w:=w) (a:=⟨b,o,none⟩) (g.block b (World.block_lt_of_cell? w _ hc) hl)).trans hc,by have:=h.eng 2 (v:=ptr A'.ba) rfl;rw[st.be,st.ba] at this;exact this⟩
theorem Fix.box {L:Lab} {w:World} {b:Nat} {v:Value} {T:TypeId} (h:Fix L w b (.cells #[v] T)):Box L w b v:=⟨T,h⟩
theorem size_alloc1 (w:World) (o:Obj):(w.alloc o).heap.size=w.heap.size+1:=by simp
theorem fix_next {L:Lab} {w:World} {b:Nat} (hf:∀ k,w.heap.size≤k→L k=none) (o:Obj) (hb:b=w.heap.size):Fix L (w.alloc o) b o:=by subst hb;exact Fix.alloc (hf _ (Nat.le_refl _))
theorem allocs1 (hR:Rep A σ w) (c0:Array Value) (T0:TypeId):Rep A σ (w.alloc (.cells c0 T0))∧Grow A.L w A.L (w.alloc (.cells c0 T0))∧Fix A.L (w.alloc (.cells c0 T0)) (w.heap.size) (.cells c0 T0):=by
 exact⟨hR.alloc _,Grow.alloc _ _ _,fix_next hR.mem.fresh _ rfl⟩
theorem allocs2 (hR:Rep A σ w) (c0:Array Value) (T0:TypeId) (c1:Array Value) (T1:TypeId):Rep A σ ((w.alloc (.cells c0 T0)).alloc (.cells c1 T1))∧Grow A.L w A.L ((w.alloc (.cells c0 T0)).alloc (.cells c1 T1))∧Fix A.L ((w.alloc (.cells c0 T0)).alloc (.cells c1 T1)) (w.heap.size) (.cells c0 T0)∧Fix A.L ((w.alloc (.cells c0 T0)).alloc (.cells c1 T1)) (w.heap.size+1) (.cells c1 T1):=by
 obtain⟨r,g,f0⟩:=allocs1 hR c0 T0;have k:=Grow.alloc A.L (w.alloc (.cells c0 T0)) (.cells c1 T1);exact⟨r.alloc _,g.trans k,f0.grow k,fix_next r.mem.fresh _ (by simp)⟩
theorem allocs3 (hR:Rep A σ w) (c0:Array Value) (T0:TypeId) (c1:Array Value) (T1:TypeId) (c2:Array Value) (T2:TypeId):Rep A σ (((w.alloc (.cells c0 T0)).alloc (.cells c1 T1)).alloc (.cells c2 T2))∧Grow A.L w A.L (((w.alloc (.cells c0 T0)).alloc (.cells c1 T1)).alloc (.cells c2 T2))∧Fix A.L (((w.alloc (.cells c0 T0)).alloc (.cells c1 T1)).alloc (.cells c2 T2)) (w.heap.size) (.cells c0 T0)∧Fix A.L (((w.alloc (.cells c0 T0)).alloc (.cells c1 T1)).alloc (.cells c2 T2)) (w.heap.size+1) (.cells c1 T1)∧Fix A.L (((w.alloc (.cells c0 T0)).alloc (.cells c1 T1)).alloc (.cells c2 T2)) (w.heap.size+2) (.cells c2 T2):=by
 obtain⟨r,g,f0,f1⟩:=allocs2 hR c0 T0 c1 T1;have k:=Grow.alloc A.L ((w.alloc (.cells c0 T0)).alloc (.cells c1 T1)) (.cells c2 T2);exact⟨r.alloc _,g.trans k,f0.grow k,f1.grow k,fix_next r.mem.fresh _ (by simp)⟩
theorem allocs4 (hR:Rep A σ w) (c0:Array Value) (T0:TypeId) (c1:Array Value) (T1:TypeId) (c2:Array Value) (T2:TypeId) (c3:Array Value) (T3:TypeId):Rep A σ ((((w.alloc (.cells c0 T0)).alloc (.cells c1 T1)).alloc (.cells c2 T2)).alloc (.cells c3 T3))∧Grow A.L w A.L ((((w.alloc (.cells c0 T0)).alloc (.cells c1 T1)).alloc (.cells c2 T2)).alloc (.cells c3 T3))∧Fix A.L ((((w.alloc (.cells c0 T0)).alloc (.cells c1 T1)).alloc (.cells c2 T2)).alloc (.cells c3 T3)) (w.heap.size) (.cells c0 T0)∧Fix A.L ((((w.alloc (.cells c0 T0)).alloc (.cells c1 T1)).alloc (.cells c2 T2)).alloc (.cells c3 T3)) (w.heap.size+1) (.cells c1 T1)∧Fix A.L ((((w.alloc (.cells c0 T0)).alloc (.cells c1 T1)).alloc (.cells c2 T2)).alloc (.cells c3 T3)) (w.heap.size+2) (.cells c2 T2)∧Fix A.L ((((w.alloc (.cells c0 T0)).alloc (.cells c1 T1)).alloc (.cells c2 T2)).alloc (.cells c3 T3)) (w.heap.size+3) (.cells c3 T3):=by
 obtain⟨r,g,f0,f1,f2⟩:=allocs3 hR c0 T0 c1 T1 c2 T2;have k:=Grow.alloc A.L (((w.alloc (.cells c0 T0)).alloc (.cells c1 T1)).alloc (.cells c2 T2)) (.cells c3 T3);exact⟨r.alloc _,g.trans k,f0.grow k,f1.grow k,f2.grow k,fix_next r.mem.fresh _ (by simp)⟩
theorem allocs5 (hR:Rep A σ w) (c0:Array Value) (T0:TypeId) (c1:Array Value) (T1:TypeId) (c2:Array Value) (T2:TypeId) (c3:Array Value) (T3:TypeId) (c4:Array Value) (T4:TypeId):Rep A σ (((((w.alloc (.cells c0 T0)).alloc (.cells c1 T1)).alloc (.cells c2 T2)).alloc (.cells c3 T3)).alloc (.cells c4 T4))∧Grow A.L w A.L (((((w.alloc (.cells c0 T0)).alloc (.cells c1 T1)).alloc (.cells c2 T2)).alloc (.cells c3 T3)).alloc (.cells c4 T4))∧Fix A.L (((((w.alloc (.cells c0 T0)).alloc (.cells c1 T1)).alloc (.cells c2 T2)).alloc (.cells c3 T3)).alloc (.cells c4 T4)) (w.heap.size) (.cells c0 T0)∧Fix A.L (((((w.alloc (.cells c0 T0)).alloc (.cells c1 T1)).alloc (.cells c2 T2)).alloc (.cells c3 T3)).alloc (.cells c4 T4)) (w.heap.size+1) (.cells c1 T1)∧Fix A.L (((((w.alloc (.cells c0 T0)).alloc (.cells c1 T1)).alloc (.cells c2 T2)).alloc (.cells c3 T3)).alloc (.cells c4 T4)) (w.heap.size+2) (.cells c2 T2)∧Fix A.L (((((w.alloc (.cells c0 T0)).alloc (.cells c1 T1)).alloc (.cells c2 T2)).alloc (.cells c3 T3)).alloc (.cells c4 T4)) (w.heap.size+3) (.cells c3 T3)∧Fix A.L (((((w.alloc (.cells c0 T0)).alloc (.cells c1 T1)).alloc (.cells c2 T2)).alloc (.cells c3 T3)).alloc (.cells c4 T4)) (w.heap.size+4) (.cells c4 T4):=by
 obtain⟨r,g,f0,f1,f2,f3⟩:=allocs4 hR c0 T0 c1 T1 c2 T2 c3 T3;have k:=Grow.alloc A.L ((((w.alloc (.cells c0 T0)).alloc (.cells c1 T1)).alloc (.cells c2 T2)).alloc (.cells c3 T3)) (.cells c4 T4);exact⟨r.alloc _,g.trans k,f0.grow k,f1.grow k,f2.grow k,f3.grow k,fix_next r.mem.fresh _ (by simp)⟩
theorem allocs6 (hR:Rep A σ w) (c0:Array Value) (T0:TypeId) (c1:Array Value) (T1:TypeId) (c2:Array Value) (T2:TypeId) (c3:Array Value) (T3:TypeId) (c4:Array Value) (T4:TypeId) (c5:Array Value) (T5:TypeId):Rep A σ ((((((w.alloc (.cells c0 T0)).alloc (.cells c1 T1)).alloc (.cells c2 T2)).alloc (.cells c3 T3)).alloc (.cells c4 T4)).alloc (.cells c5 T5))∧Grow A.L w A.L ((((((w.alloc (.cells c0 T0)).alloc (.cells c1 T1)).alloc (.cells c2 T2)).alloc (.cells c3 T3)).alloc (.cells c4 T4)).alloc (.cells c5 T5))∧Fix A.L ((((((w.alloc (.cells c0 T0)).alloc (.cells c1 T1)).alloc (.cells c2 T2)).alloc (.cells c3 T3)).alloc (.cells c4 T4)).alloc (.cells c5 T5)) (w.heap.size) (.cells c0 T0)∧Fix A.L ((((((w.alloc (.cells c0 T0)).alloc (.cells c1 T1)).alloc (.cells c2 T2)).alloc (.cells c3 T3)).alloc (.cells c4 T4)).alloc (.cells c5 T5)) (w.heap.size+1) (.cells c1 T1)∧Fix A.L ((((((w.alloc (.cells c0 T0)).alloc (.cells c1 T1)).alloc (.cells c2 T2)).alloc (.cells c3 T3)).alloc (.cells c4 T4)).alloc (.cells c5 T5)) (w.heap.size+2) (.cells c2 T2)∧Fix A.L ((((((w.alloc (.cells c0 T0)).alloc (.cells c1 T1)).alloc (.cells c2 T2)).alloc (.cells c3 T3)).alloc (.cells c4 T4)).alloc (.cells c5 T5)) (w.heap.size+3) (.cells c3 T3)∧Fix A.L ((((((w.alloc (.cells c0 T0)).alloc (.cells c1 T1)).alloc (.cells c2 T2)).alloc (.cells c3 T3)).alloc (.cells c4 T4)).alloc (.cells c5 T5)) (w.heap.size+4) (.cells c4 T4)∧Fix A.L ((((((w.alloc (.cells c0 T0)).alloc (.cells c1 T1)).alloc (.cells c2 T2)).alloc (.cells c3 T3)).alloc (.cells c4 T4)).alloc (.cells c5 T5)) (w.heap.size+5) (.cells c5 T5):=by
 obtain⟨r,g,f0,f1,f2,f3,f4⟩:=allocs5 hR c0 T0 c1 T1 c2 T2 c3 T3 c4 T4;have k:=Grow.alloc A.L (((((w.alloc (.cells c0 T0)).alloc (.cells c1 T1)).alloc (.cells c2 T2)).alloc (.cells c3 T3)).alloc (.cells c4 T4)) (.cells c5 T5);exact⟨r.alloc _,g.trans k,f0.grow k,f1.grow k,f2.grow k,f3.grow k,f4.grow k,fix_next r.mem.fresh _ (by simp)⟩
theorem older_any (hR:Rep A σ w) (s:Nat) (bh:Nat) (h:Hunt) (hh:HuntAt (kp A σ s) A.L w bh h) (link:Nat):
 Calls Tryz.prog 321 #[.pointer (some ⟨bh,0,none⟩),zu (link:Int)] w (Tells A w s (σ,.older h link)):=by
 have F:=zH (allocs2 hR #[.pointer (some ⟨bh,0,none⟩)] 355 #[zu (link:Int)] 33);have HH:=zH hh;clear hh;clear hR;go_enter Tryz.func321,Tryz.ntmps321;go_wp2;go_ret;obtain⟨r1,r2,f0,f1⟩:=F.out;exact⟨A,_,rfl,r1,r2,Stay.refl _ _,_,_,rfl,⟨_,f0.box,HH.out.grow r2⟩,f1.box⟩
theorem ended_any (hR:Rep A σ w) (s:Nat) (bh:Nat) (h:Hunt) (hh:HuntAt (kp A σ s) A.L w bh h) (link:Nat) (mb:Nat):
 Calls Tryz.prog 320 #[.pointer (some ⟨bh,0,none⟩),zu (link:Int),zi (mb:Int)] w (Tells A w s (σ,.ended h link mb)):=by
 have F:=zH (allocs3 hR #[.pointer (some ⟨bh,0,none⟩)] 355 #[zu (link:Int)] 33 #[zi (mb:Int)] 3);have HH:=zH hh;clear hh;clear hR;go_enter Tryz.func320,Tryz.ntmps320;go_wp2;go_ret;obtain⟨r1,r2,f0,f1,f2⟩:=F.out;exact⟨A,_,rfl,r1,r2,Stay.refl _ _,_,_,_,rfl,⟨_,f0.box,HH.out.grow r2⟩,f1.box,f2.box⟩
theorem ender_any (hR:Rep A σ w) (s:Nat) (bh:Nat) (h:Hunt) (hh:HuntAt (kp A σ s) A.L w bh h) (link:Nat) (mb:Nat) (id:Nat):
 Calls Tryz.prog 333 #[.pointer (some ⟨bh,0,none⟩),zu (link:Int),zi (mb:Int),zi (id:Int)] w (Tells A w s (σ,.ender h link mb id)):=by
 have F:=zH (allocs4 hR #[.pointer (some ⟨bh,0,none⟩)] 355 #[zu (link:Int)] 33 #[zi (mb:Int)] 3 #[zi (id:Int)] 3);have HH:=zH hh;clear hh;clear hR;go_enter Tryz.func333,Tryz.ntmps333;go_wp2;go_ret;obtain⟨r1,r2,f0,f1,f2,f3⟩:=F.out;exact⟨A,_,rfl,r1,r2,Stay.refl _ _,_,_,_,_,rfl,⟨_,f0.box,HH.out.grow r2⟩,f3.box,f1.box,f2.box⟩
theorem draw_any (hR:Rep A σ w) (s:Nat):
 Calls Tryz.prog 169 #[.pointer (some ⟨A.be,0,none⟩),.pointer (some ⟨A.bt s,0,none⟩),.pointer (some ⟨A.bc s,0,none⟩)] w (Tells A w s (σ,.draw)):=by
 have F:=zH (allocs3 hR #[.pointer (some ⟨A.be,0,none⟩)] 85 #[.pointer (some ⟨A.bt s,0,none⟩)] 123 #[.pointer (some ⟨A.bc s,0,none⟩)] 125);clear hR;go_enter Tryz.func169,Tryz.ntmps169;go_wp2;go_ret;obtain⟨r1,r2,f0,f1,f2⟩:=F.out;exact⟨A,_,rfl,r1,r2,Stay.refl _ _,_,_,_,rfl,f0.box,f1.box,f2.box⟩
theorem commit_any (hR:Rep A σ w) (s:Nat):
 Calls Tryz.prog 276 #[.pointer (some ⟨A.be,0,none⟩),.pointer (some ⟨A.bt s,0,none⟩),.pointer (some ⟨A.bc s,0,none⟩)] w (Tells A w s (σ,.commit)):=by
 have F:=zH (allocs3 hR #[.pointer (some ⟨A.be,0,none⟩)] 85 #[.pointer (some ⟨A.bt s,0,none⟩)] 123 #[.pointer (some ⟨A.bc s,0,none⟩)] 125);clear hR;go_enter Tryz.func276,Tryz.ntmps276;go_wp2;go_ret;obtain⟨r1,r2,f0,f1,f2⟩:=F.out;exact⟨A,_,rfl,r1,r2,Stay.refl _ _,_,_,_,rfl,f0.box,f1.box,f2.box⟩
theorem abort_any (hR:Rep A σ w) (s:Nat) (er:Nat) (reason:Nat):
 Calls Tryz.prog 170 #[.pointer (some ⟨A.be,0,none⟩),.pointer (some ⟨A.bt s,0,none⟩),.pointer (some ⟨A.bc s,0,none⟩),zi (er:Int),zi (reason:Int)] w (Tells A w s (σ,.abort er reason)):=by
 have F:=zH (allocs5 hR #[.pointer (some ⟨A.be,0,none⟩)] 85 #[.pointer (some ⟨A.bt s,0,none⟩)] 123 #[.pointer (some ⟨A.bc s,0,none⟩)] 125 #[zi (er:Int)] 24 #[zi (reason:Int)] 3);clear hR;go_enter Tryz.func170,Tryz.ntmps170;go_wp2;go_ret;obtain⟨r1,r2,f0,f1,f2,f3,f4⟩:=F.out;exact⟨A,_,rfl,r1,r2,Stay.refl _ _,_,_,_,_,_,rfl,f0.box,f1.box,f4.box,f2.box,f3.box⟩
theorem fresh_any (hR:Rep A σ w) (s:Nat) (link:Nat):
 Calls Tryz.prog 213 #[.pointer (some ⟨A.be,0,none⟩),.pointer (some ⟨A.bt s,0,none⟩),.pointer (some ⟨A.bc s,0,none⟩),zu (link:Int)] w (Tells A w s (σ,.fresh link)):=by
 have F:=zH (allocs4 hR #[.pointer (some ⟨A.be,0,none⟩)] 85 #[.pointer (some ⟨A.bt s,0,none⟩)] 123 #[.pointer (some ⟨A.bc s,0,none⟩)] 125 #[zu (link:Int)] 33);clear hR;go_enter Tryz.func213,Tryz.ntmps213;go_wp2;go_ret;obtain⟨r1,r2,f0,f1,f2,f3⟩:=F.out;exact⟨A,_,rfl,r1,r2,Stay.refl _ _,_,_,_,_,rfl,f0.box,f2.box,f1.box,f3.box⟩
theorem own_any (hR:Rep A σ w) (s:Nat) (link:Nat):
 Calls Tryz.prog 214 #[.pointer (some ⟨A.be,0,none⟩),.pointer (some ⟨A.bt s,0,none⟩),.pointer (some ⟨A.bc s,0,none⟩),zu (link:Int)] w (Tells A w s (σ,.own link)):=by
 have F:=zH (allocs4 hR #[.pointer (some ⟨A.be,0,none⟩)] 85 #[.pointer (some ⟨A.bt s,0,none⟩)] 123 #[.pointer (some ⟨A.bc s,0,none⟩)] 125 #[zu (link:Int)] 33);clear hR;go_enter Tryz.func214,Tryz.ntmps214;go_wp2;go_ret;obtain⟨r1,r2,f0,f1,f2,f3⟩:=F.out;exact⟨A,_,rfl,r1,r2,Stay.refl _ _,_,_,_,_,rfl,f0.box,f3.box,f1.box,f2.box⟩
theorem claim_any (hR:Rep A σ w) (s:Nat) (link:Nat) (x:Nat):
 Calls Tryz.prog 254 #[.pointer (some ⟨A.be,0,none⟩),.pointer (some ⟨A.bt s,0,none⟩),.pointer (some ⟨A.bc s,0,none⟩),zu (link:Int),zu (x:Int)] w (Tells A w s (σ,.claim link x)):=by
 have F:=zH (allocs5 hR #[.pointer (some ⟨A.be,0,none⟩)] 85 #[.pointer (some ⟨A.bt s,0,none⟩)] 123 #[.pointer (some ⟨A.bc s,0,none⟩)] 125 #[zu (link:Int)] 33 #[zu (x:Int)] 33);clear hR;go_enter Tryz.func254,Tryz.ntmps254;go_wp2;go_ret;obtain⟨r1,r2,f0,f1,f2,f3,f4⟩:=F.out;exact⟨A,_,rfl,r1,r2,Stay.refl _ _,_,_,_,_,_,rfl,f0.box,f3.box,f4.box,f1.box,f2.box⟩
theorem push_any (hR:Rep A σ w) (s:Nat) (link:Nat) (head:Nat):
 Calls Tryz.prog 281 #[.pointer (some ⟨A.be,0,none⟩),.pointer (some ⟨A.bt s,0,none⟩),.pointer (some ⟨A.bc s,0,none⟩),zu (link:Int),zu (head:Int)] w (Tells A w s (σ,.push link head)):=by
 have F:=zH (allocs5 hR #[.pointer (some ⟨A.be,0,none⟩)] 85 #[.pointer (some ⟨A.bt s,0,none⟩)] 123 #[.pointer (some ⟨A.bc s,0,none⟩)] 125 #[zu (link:Int)] 33 #[zu (head:Int)] 33);clear hR;go_enter Tryz.func281,Tryz.ntmps281;go_wp2;go_ret;obtain⟨r1,r2,f0,f1,f2,f3,f4⟩:=F.out;exact⟨A,_,rfl,r1,r2,Stay.refl _ _,_,_,_,_,_,rfl,f0.box,f3.box,f4.box,f2.box,f1.box⟩
theorem ends_any (hR:Rep A σ w) (s:Nat) (r:Res) (vp:Value) (hp:(vp=A.vpairs s∧r.pairs=(σ.c s).r.pairs)∨(vp=.slice none 0 0∧r.pairs=[])):
 Calls Tryz.prog 195 #[.pointer (some ⟨A.be,0,none⟩),.pointer (some ⟨A.bc s,0,none⟩),.agg #[zi (r.e:Int),zi (r.value:Int),vp,zi (r.over:Int),zi (r.reason:Int)]] w (Tells A w s (σ,.fin r)):=by
 have F:=zH (allocs3 hR #[.pointer (some ⟨A.be,0,none⟩)] 85 #[.pointer (some ⟨A.bc s,0,none⟩)] 125 #[zi (r.e:Int),zi (r.value:Int),vp,zi (r.over:Int),zi (r.reason:Int)] 168);have HP:=zH hp;clear hR hp;go_enter Tryz.func195,Tryz.ntmps195;go_wp2;go_ret;obtain⟨r1,r2,f0,f1,f2⟩:=F.out;exact⟨A,_,rfl,r1,r2,Stay.refl _ _,_,_,_,rfl,f0.box,f1.box,_,_,f2,HP.out⟩
theorem ends_at (hR:Rep A σ w) (s:Nat) (r:Res) (re rv ro rr:Int) (vp:Value) (hcs:resCs r vp=[zi re,zi rv,vp,zi ro,zi rr]) (hp:(vp=A.vpairs s∧r.pairs=(σ.c s).r.pairs)∨(vp=.slice none 0 0∧r.pairs=[])):
 Calls Tryz.prog 195 #[.pointer (some ⟨A.be,0,none⟩),.pointer (some ⟨A.bc s,0,none⟩),.agg #[zi re,zi rv,vp,zi ro,zi rr]] w (Tells A w s (σ,.fin r)):=by
 have h:=ends_any hR s r vp hp;simp only[resCs,List.cons.injEq,Value.int.injEq,true_and,and_true] at hcs;obtain⟨e1,e2,e3,e4⟩:=hcs;rw[e1,e2,e3,e4] at h;exact h
end Go.Proofs.YtiimlopcifljeaaGreatDoor.Em
namespace Go.Proofs.YtiimlopcifljeaaGreatDoor.Ow
open Go.ChangeShapes Go.WideShapes Go.ChangeAt Go.RowKit
set_option linter.unusedVariables false
set_option linter.unusedSimpArgs false
set_option maxRecDepth 100000
set_option maxHeartbeats 1600000
theorem append_where {P:Program} (w:World) (base:Nat) (t ty e:TypeId) (i:TypeInfo) (z:Value) (size bytes:Nat) (ht:P.underlying t=some (.slice e)) (hi:P.info? e=some i) (hz:i.zero=some z)
 (hsize:i.size=size) (hby:i.bytes=bytes) (hzs:z.cells.size=size) (hsz:0<size)
 (v:Value) (n:Nat) (xs:List Value) (hown:w.ownsRow base e size v n xs)
 (a:Addr) (m c:Nat) (hm:0<m) (news:List Value) (hl:news.length=m*size) (hnews:∀ j u,news[j]? =some u→w.cell? (a.add j)=some u) (h1:∀ u∈news,u.oneCell'=true)
 (h63:n+m≤maxLen) (hbytes:(n+m)*bytes≤140737488355328) (v':Value) (w':World)
 (hr':(Builtin.append_ #[t,t] ty #[v,.slice (some a) m c]).run P w=.ok v' w'):
 v'.ownBlock=v.ownBlock∨∀ g,v'.ownBlock=some g→w.heap.size≤g:=by
 subst hsize;subst hby;have hsmall:n+m≤9223372036854775807:=by simp only[maxLen] at h63;omega
 rcases hown.2 with ⟨rfl,rfl⟩|⟨g,cap,cur,rfl,hbg,hg,hnc,hcm,hcs,htake⟩
 · have hr:=run_append_nil (P:=P) w t ty e i z ht hi hz a m c news hl hnews (by omega) (by omega) (by have hb:=hbytes;simp only[Nat.zero_add] at hb;omega)
   rw[hr] at hr';injection hr' with e1 e2
   subst e1;right;intro g hg;simp only[Value.ownBlock,Option.some.injEq] at hg;omega
 · by_cases hroom:n+m≤cap
   · have hfit:n*i.size+news.length≤cur.size:=by rw[hl,hcs,←Nat.add_mul];exact Nat.mul_le_mul_right _ hroom
     have hr:=run_append_room (P:=P) w t ty e i ht hi g n cap cur hg a m c news hl hnews h1 hroom hfit;rw[hr] at hr';injection hr' with e1 e2
     subst e1;left;rfl
   · have holds:∀ j u,xs[j]? =some u→w.cell? ((⟨g,0,none⟩:Addr).add j)=some u:=hown.cells (g:=g) rfl
     have hr:=run_append_grow (P:=P) w t ty e i z ht hi hz ⟨g,0,none⟩ n cap xs hown.1 holds a m c news hl hnews (by omega) (by omega) (growslice_fits (by omega) hbytes);rw[hr] at hr';injection hr' with e1 e2
     subst e1;right;intro g hg;simp only[Value.ownBlock,Option.some.injEq] at hg;omega
theorem wpList_append_to {P:Program} {ops:Array Oper} {rest:List Oper} {o:Oper} {a:Act} {Q:Exit→Act→World→Prop} (w:World) (hgd:o.guard=none) (s x:Operand) (t:TypeId)
 (ho:o.op=.call {callee:=.builtin .append,args:=#[s,x],argTypes:=#[t,t]})
 (base:Nat) (e:TypeId) (i:TypeInfo) (z:Value) (size bytes:Nat) (ht:P.underlying t=some (.slice e)) (hi:P.info? e=some i) (hz:i.zero=some z)
 (hsize:i.size=size) (hby:i.bytes=bytes) (hzs:z.cells.size=size) (hsz:0<size)
 (v:Value) (n:Nat) (xs:List Value) (hs:a.eval s=v) (hown:w.ownsRow base e size v n xs)
 (ad:Addr) (m c:Nat) (hm:0<m) (news:List Value) (hx:a.eval x=.slice (some ad) m c) (hl:news.length=m*size) (hnews:∀ j u,news[j]? =some u→w.cell? (ad.add j)=some u) (h1:∀ u∈news,u.oneCell'=true)
 (h63:n+m≤maxLen) (hbytes:(n+m)*bytes≤140737488355328) (hbase:base≤w.heap.size)
 (h:∀ v' w',w'.ownsRow base e size v' (n+m) (xs++news)→w.grownBy w' v.ownBlock→(v'.ownBlock=v.ownBlock∨∀ g,v'.ownBlock=some g→w.heap.size≤g)→wpList P ops Q rest (a.put o.dst v') w'):
 wpList P ops Q (o::rest) a w:=by
 refine wpList_plain hgd fun _ hK=>?_
 obtain⟨v',w',hr,h2,h3,_⟩:=run_append_own (P:=P) w base t o.type e i z size bytes ht hi hz hsize hby hzs hsz v n xs hown ad m c news hl hnews h1 h63 hbytes hbase;have h4:=append_where (P:=P) w base t o.type e i z size bytes ht hi hz hsize hby hzs hsz v n xs hown ad m c hm news hl hnews h1 h63 hbytes v' w' hr;unfold Oper.wp execOp;simp only[ho,resolve,invoke,builtin,Sem.run_bind,Sem.run_pure,Result.andThen_ok,List.map_toArray,List.map_cons,List.map_nil,hs,hx,hr];exact hK _ _ (h v' w' h2 h3 h4)
theorem wp_append_to {P:Program} (w:World) {o:Oper} {a:Act} {K:Act→World→Prop} {Q:Exit→Act→World→Prop} (s x:Operand) (t:TypeId)
 (ho:o.op=.call {callee:=.builtin .append,args:=#[s,x],argTypes:=#[t,t]})
 (base:Nat) (e:TypeId) (i:TypeInfo) (z:Value) (size bytes:Nat) (ht:P.underlying t=some (.slice e)) (hi:P.info? e=some i) (hz:i.zero=some z)
 (hsize:i.size=size) (hby:i.bytes=bytes) (hzs:z.cells.size=size) (hsz:0<size)
 (v:Value) (n:Nat) (xs:List Value) (hs:a.eval s=v) (hown:w.ownsRow base e size v n xs)
 (ad:Addr) (m c:Nat) (hm:0<m) (news:List Value) (hx:a.eval x=.slice (some ad) m c) (hl:news.length=m*size) (hnews:∀ j u,news[j]? =some u→w.cell? (ad.add j)=some u) (h1:∀ u∈news,u.oneCell'=true)
 (h63:n+m≤maxLen) (hbytes:(n+m)*bytes≤140737488355328) (hbase:base≤w.heap.size)
 (h:∀ v' w',w'.ownsRow base e size v' (n+m) (xs++news)→w.grownBy w' v.ownBlock→(v'.ownBlock=v.ownBlock∨∀ g,v'.ownBlock=some g→w.heap.size≤g)→K (a.put o.dst v') w'):o.wp P a w K Q:=by
 obtain⟨v',w',hr,h2,h3,_⟩:=run_append_own (P:=P) w base t o.type e i z size bytes ht hi hz hsize hby hzs hsz v n xs hown ad m c news hl hnews h1 h63 hbytes hbase;have h4:=append_where (P:=P) w base t o.type e i z size bytes ht hi hz hsize hby hzs hsz v n xs hown ad m c hm news hl hnews h1 h63 hbytes v' w' hr;unfold Oper.wp execOp;simp only[ho,resolve,invoke,builtin,Sem.run_bind,Sem.run_pure,Result.andThen_ok,List.map_toArray,List.map_cons,List.map_nil,hs,hx,hr];exact h v' w' h2 h3 h4
end Go.Proofs.YtiimlopcifljeaaGreatDoor.Ow
namespace Go.Proofs.YtiimlopcifljeaaGreatDoor.Em
open Go.ChangeShapes Go.WideShapes Go.ChangeAt Go.RowKit En
set_option linter.unusedVariables false
set_option linter.unusedSimpArgs false
set_option maxRecDepth 100000
set_option maxHeartbeats 1600000
variable {A:Book} {σ:St} {w:World}
def Does (A:Book) (w:World) (s:Nat) (σ':St) (v:Value):Ending→World→Prop:=fun e w'=>
 e=.returned v∧∃ A',Rep A' σ' w'∧Grow A.L w A'.L w'∧Stay A A' s∧A'.bx=A.bx∧A'.vpairs=A.vpairs
theorem kp_same {A A':Book} {σ σ':St} {s:Nat} (st:Stay A A' s) (h1:A'.bx=A.bx) (h2:A'.vpairs=A.vpairs) (h3:(σ'.c s).op.key=(σ.c s).op.key) (h4:(σ'.c s).r.pairs=(σ.c s).r.pairs):kp A' σ' s=kp A σ s:=by
 unfold kp;rw[st.be,st.bt,st.bc,h1,h2,h3,h4]
theorem info_parts {P:Program} {t:TypeId} {z:Value} {s b:Nat} (h:(P.info? t).map (fun i=>(i.zero,i.size,i.bytes))=some (some z,s,b)):∃ i,P.info? t=some i∧i.zero=some z∧i.size=s∧i.bytes=b:=by
 cases hi:P.info? t with
 |none=>rw[hi] at h;cases h
 |some i=>
  rw[hi] at h;simp only[Option.map_some,Option.some.injEq,Prod.mk.injEq] at h;exact⟨i,rfl,h.1,h.2.1,h.2.2⟩
theorem slotOf_cast {l:Nat} (h1:1≤l % 131072):((slotOf l:Nat):Int)=(l:Int) % 131072 - 1:=by unfold slotOf;omega
theorem data_any (hR:Rep A σ w) (l:Nat) (h1:1≤l % 131072) (h2:l % 131072≤σ.slots) (hl:l<18446744073709551616):
 Calls Tryz.prog 81 #[.pointer (some ⟨A.be,0,none⟩),zu (l:Int)] w fun e w'=>e=.returned (.pointer (some ⟨A.bv,2*slotOf l,none⟩))∧w=w':=by
 have c4:w.cell? ⟨A.be,4,none⟩=some (.slice (some ⟨A.bv,0,none⟩) σ.slots σ.slots):=hR.eng 4 rfl;have hu:=Word.unlink_any (l:Int) (by omega) (by omega) w;rw[←slotOf_cast h1] at hu;have hi:slotOf l<σ.slots:=by unfold slotOf;omega
 have hsl:=hR.sl;generalize slotOf l=i at*;generalize hn:σ.slots=n at*;have b1:(i:Int)<(n:Int):=by omega
 have b0:(0:Int)≤(i:Int):=by omega
 have HU:=zH hu;clear hR h1 h2 hl hi hn hu;go_enter Tryz.func81,Tryz.ntmps81;go_wp2_with (go_at_call 117;refine HU.out.mono ?_;rintro e w' ⟨rfl,rfl⟩);go_ret;refine⟨?_,rfl⟩
 first|rfl|(simp[Nat.mul_comm];done)
theorem ThnRep.form {p:KP} {L:Lab} {w:World} {v:Value} {key:Nat} {t:Thn} (h:ThnRep p L w v key t):∃ f c,v=.func (.func f) #[] c:=by
 cases t
 · obtain⟨b0,b1,b2,b3,e,_⟩:=h;exact⟨_,_,e⟩
 · obtain⟨b0,b1,b2,b3,b4,e,_⟩:=h;exact⟨_,_,e⟩
 · obtain⟨b0,b1,b2,b3,e,_⟩:=h;exact⟨_,_,e⟩
 · obtain⟨b0,b1,b2,b3,b4,e,_⟩:=h;exact⟨_,_,e⟩
theorem find_any (hR:Rep A σ w) (s key at_:Nat) (vt:Value) (thn:Thn) (hv:ThnRep (kp A σ s) A.L w vt key thn):
 Calls Tryz.prog 196 #[.pointer (some ⟨A.be,0,none⟩),.pointer (some ⟨A.bt s,0,none⟩),zi (key:Int),zu (at_:Int),vt] w (Tells A w s (σ,.start ⟨key,at_,thn⟩)):=by
 obtain⟨fv,cv,rfl⟩:=hv.form;have F:=zH (allocs1 hR #[.pointer (some ⟨A.be,0,none⟩),.pointer (some ⟨A.bt s,0,none⟩),zi (key:Int),zu (at_:Int),.func (.func fv) #[] cv] 357);have HV:=zH hv;clear hR hv;go_enter Tryz.func196,Tryz.ntmps196;go_wp2;go_ret;obtain⟨r1,r2,f0⟩:=F.out;exact⟨A,_,rfl,r1,r2,Stay.refl _ _,_,rfl,_,_,f0,HV.out.grow r2⟩
theorem infoS:(Tryz.prog.info? 359).map (fun i=>(i.zero,i.size,i.bytes))=some (some (.agg #[zi 0,zu 0,.bool false]),3,24):=by kernel_rfl
theorem read_any (hR:Rep A σ w) (s:Nat) (t:Txn) (ht:σ.txns.getD s none=some t) (key link:Nat) (got:Bool) (hn:t.reads.length<1000000):
 Calls Tryz.prog 198 #[.pointer (some ⟨A.bt s,0,none⟩),zi (key:Int),zu (link:Int),.bool got] w (Does A w s (σ.read s key link got) (.tuple #[])):=by
 have c8:w.cell? ⟨A.bt s,8,none⟩=some (A.vreads s):=hR.txn ht 8 rfl;have z8:=hR.txnF ht 8;have hA:=hR.alloc (.cells #[zi (key:Int),zu (link:Int),.bool got] 359);have hown:=hA.mem.all (.reads s);rw[mem_reads ht] at hown;have ho:=hown.1;obtain⟨av,capv,hv,_⟩:=Ow.own_form ho;have hst:σ.read s key link got=σ.setT s {t with reads:=t.reads++[(key,link,got)]}:=by unfold St.read;rw[txn_get ht]
 rw[hst];have e2:readCs (t.reads++[(key,link,got)])=readCs t.reads++[zi (key:Int),zu (link:Int),.bool got]:=by simp[readCs]
 have hlen:(t.reads++[(key,link,got)]).length=t.reads.length+1:=by simp
 have hbm:0≤(w.alloc (.cells #[zi (key:Int),zu (link:Int),.bool got] 359)).heap.size:=Nat.zero_le _;rw[hv] at c8;have HA:=zH (zA hA (Grow.alloc A.L w (.cells #[zi (key:Int),zu (link:Int),.bool got] 359)));have HT:=zH ht;have HV:=zH hv;have HE:=zH (zA e2 hlen);rw[hv] at ho;clear hR hA ht hown hst hv e2 hlen;generalize hrl:t.reads.length=n at*;have HN:=zH hrl;clear hrl;obtain⟨i0,hi,hz0,hz1,hz2⟩:=info_parts infoS;go_enter Tryz.func198,Tryz.ntmps198;go_wp2_with (at_builtin;refine Ow.wpList_append_to _ rfl (.tmp 12) (.tmp 17) 144 rfl 0 _ i0 _ 3 24 Tryz.underlying144 hi hz0 hz1 hz2 rfl (by decide) (.slice av n capv) n (readCs t.reads) rfl ho ⟨w.heap.size,0,none⟩ 1 1 (by omega) [zi (key:Int),zu (link:Int),.bool got] rfl rfl ?c1 (by intro u hu;simp at hu;rcases hu with rfl|rfl|rfl<;>rfl) (by unfold maxLen;omega) (by omega) hbm ?_)
 case c1=>exact Ow.new_row w [zi (key:Int),zu (link:Int),.bool got] _ _ rfl
 intro v' w2 hown2 hg2 hwh;obtain⟨hA,hG⟩:=HA.out;obtain⟨e2,hlen⟩:=HE.out;obtain⟨a4,cap4,hv4,_⟩:=Ow.own_form hown2;have hrow:=hA.readsOn HT.out (t.reads++[(key,link,got)]) v' (by rw[HV.out];exact hg2) (by rw[e2,hlen];exact hown2) (by rw[HV.out,size_alloc1];exact hwh);have HO:=zH (zA hrow.1 hrow.2.1);have HV4:=zH hv4;obtain⟨_,_,c82,z82⟩:=hrow;rw[HV.out] at c82;clear hA hG e2 hlen hown2 hg2 hwh ho c8 z8 hn hbm;subst hv4;go_wp2_with fail
 go_end0
 obtain⟨r1,r2⟩:=HO.out;exact⟨rfl,_,r1,HA.out.2.trans r2,⟨rfl,rfl,rfl,rfl,rfl,rfl,rfl,rfl,rfl,rfl,rfl,fun _ _=>rfl,fun _ _=>rfl⟩,rfl,rfl⟩
theorem infoE:(Tryz.prog.info? 170).map (fun i=>(i.zero,i.size,i.bytes))=some (some (.agg #[zi 0,zi 0,zu 0,zi 0,zi 0,zi 0,zi 0,zi 0,zi 0,.slice none 0 0,zi 0,zi 0]),12,112):=by kernel_rfl
theorem grown_drew {w w':World} {row:Option Nat} (h:w.drew.grownBy w' row):w.grownBy w' row:=⟨h.os,h.tape,h.output,h.size,h.block⟩
theorem event_any (hR:Rep A σ w) (s:Nat) (e:Ev) (k t n ok oy oh ov re rv ro rr:Int) (a:Option Addr) (pn pc:Nat) (hcs:evCs e (.slice a pn pc)=[Value.int .i64 k,zi t,zu n,zi ok,zi oy,zi oh,zi ov,zi re,zi rv,.slice a pn pc,zi ro,zi rr])
 (hp:PRow A.L w (.slice a pn pc) (pairCs e.res.pairs)) (hn:σ.tale.length<1000000):
 Calls Tryz.prog 74 #[.pointer (some ⟨A.be,0,none⟩),.agg #[Value.int .i64 k,zi t,zu n,zi ok,zi oy,zi oh,zi ov,zi re,zi rv,.slice a pn pc,zi ro,zi rr]] w (Does A w s (σ.event e) (.tuple #[])):=by
 obtain⟨h1,g1,_⟩:=allocs1 hR #[Value.int .i64 k,zi t,zu n,zi ok,zi oy,zi oh,zi ov,zi re,zi rv,.slice a pn pc,zi ro,zi rr] 170;have c24:(w.alloc (.cells #[Value.int .i64 k,zi t,zu n,zi ok,zi oy,zi oh,zi ov,zi re,zi rv,.slice a pn pc,zi ro,zi rr] 170)).cell? ⟨A.be,24,none⟩=some A.vtale:=h1.eng 24 rfl;obtain⟨h2,g2,_,_⟩:=allocs2 hR #[Value.int .i64 k,zi t,zu n,zi ok,zi oy,zi oh,zi ov,zi re,zi rv,.slice a pn pc,zi ro,zi rr] 170 #[Value.int .i64 k,zi t,zu n,zi ok,zi oy,zi oh,zi ov,zi re,zi rv,.slice a pn pc,zi ro,zi rr] 170;have hd:Rep A σ ((w.alloc (.cells #[Value.int .i64 k,zi t,zu n,zi ok,zi oy,zi oh,zi ov,zi re,zi rv,.slice a pn pc,zi ro,zi rr] 170)).alloc (.cells #[Value.int .i64 k,zi t,zu n,zi ok,zi oy,zi oh,zi ov,zi re,zi rv,.slice a pn pc,zi ro,zi rr] 170)):=h2;have c25:((w.alloc (.cells #[Value.int .i64 k,zi t,zu n,zi ok,zi oy,zi oh,zi ov,zi re,zi rv,.slice a pn pc,zi ro,zi rr] 170)).alloc (.cells #[Value.int .i64 k,zi t,zu n,zi ok,zi oy,zi oh,zi ov,zi re,zi rv,.slice a pn pc,zi ro,zi rr] 170)).cell? ⟨A.be,24,none⟩=some A.vtale:=h2.eng 24 rfl;have hown:=(hd.mem.all .tale).1;obtain⟨av,capv,hv,_⟩:=Ow.own_form hown;rw[hv] at c24 c25 hown;have F:∀ v' w2,w2.ownsRow 0 170 12 v' (σ.tale.length+1) (A.taleCs++[Value.int .i64 k,zi t,zu n,zi ok,zi oy,zi oh,zi ov,zi re,zi rv,.slice a pn pc,zi ro,zi rr])→((w.alloc (.cells #[Value.int .i64 k,zi t,zu n,zi ok,zi oy,zi oh,zi ov,zi re,zi rv,.slice a pn pc,zi ro,zi rr] 170)).alloc (.cells #[Value.int .i64 k,zi t,zu n,zi ok,zi oy,zi oh,zi ov,zi re,zi rv,.slice a pn pc,zi ro,zi rr] 170)).grownBy w2 A.vtale.ownBlock→(v'.ownBlock=A.vtale.ownBlock∨∀ g,v'.ownBlock=some g→((w.alloc (.cells #[Value.int .i64 k,zi t,zu n,zi ok,zi oy,zi oh,zi ov,zi re,zi rv,.slice a pn pc,zi ro,zi rr] 170)).alloc (.cells #[Value.int .i64 k,zi t,zu n,zi ok,zi oy,zi oh,zi ov,zi re,zi rv,.slice a pn pc,zi ro,zi rr] 170)).heap.size≤g)→
  (∃ A',Rep A' (σ.event e) (w2.setCell ⟨A.be,24,none⟩ v')∧Grow A.L w A'.L (w2.setCell ⟨A.be,24,none⟩ v')∧Stay A A' s∧A'.bx=A.bx∧A'.vpairs=A.vpairs)∧w2.cell? ⟨A.be,24,none⟩=some A.vtale∧w2.frozen? ⟨A.be,24,none⟩=false:=by
  intro v' w2 q1 q2 q3;obtain⟨r1,r2,r3,r4⟩:=hd.eventOn e _ v' (hp.grow g2) q2 (by rw[hcs];exact q1) q3;exact⟨⟨_,r1,g2.trans r2,⟨rfl,rfl,rfl,rfl,rfl,rfl,rfl,rfl,rfl,rfl,rfl,fun _ _=>rfl,fun _ _=>rfl⟩,rfl,rfl⟩,r3,r4⟩
 have hos:=size_alloc1 (w.alloc (.cells #[Value.int .i64 k,zi t,zu n,zi ok,zi oy,zi oh,zi ov,zi re,zi rv,.slice a pn pc,zi ro,zi rr] 170)) (.cells #[Value.int .i64 k,zi t,zu n,zi ok,zi oy,zi oh,zi ov,zi re,zi rv,.slice a pn pc,zi ro,zi rr] 170);rw[size_alloc1] at hos;rw[hv] at F;have HF:=zH F;have HO:=zH hown;have HS:=zH hos;obtain⟨i0,hi,hz0,hz1,hz2⟩:=info_parts infoE;clear hR h1 g1 h2 g2 hd hv hp hcs F hown hos;generalize A.taleCs=xs at*;generalize σ.tale.length=len at*;go_enter Tryz.func74,Tryz.ntmps74;go_wp2_with fail
 go_region_law (first|(refine Ow.wp_append_to _ (.tmp 8) (.tmp 10) 127 rfl 0 _ i0 _ 12 112 Tryz.underlying127 hi hz0 hz1 hz2 rfl (by decide) (.slice av len capv) len xs rfl HO.out ⟨w.heap.size+1,0,none⟩ 1 1 (by omega) [Value.int .i64 k,zi t,zu n,zi ok,zi oy,zi oh,zi ov,zi re,zi rv,.slice a pn pc,zi ro,zi rr] rfl rfl (by intro j u hu;exact Ow.new_row (w.alloc (.cells #[Value.int .i64 k,zi t,zu n,zi ok,zi oy,zi oh,zi ov,zi re,zi rv,.slice a pn pc,zi ro,zi rr] 170)) [Value.int .i64 k,zi t,zu n,zi ok,zi oy,zi oh,zi ov,zi re,zi rv,.slice a pn pc,zi ro,zi rr] _ _ (size_alloc1 _ _).symm j u hu) (by intro u hu;simp at hu;rcases hu with rfl|rfl|rfl|rfl|rfl|rfl|rfl|rfl|rfl|rfl|rfl|rfl<;>rfl) (by unfold maxLen;omega) (by omega) (Nat.zero_le _) ?_;intro v' w2 q1 q2 q3;obtain⟨r1,r2,r3⟩:=HF.out v' w2 q1 (grown_drew q2) q3;obtain⟨a4,cap4,rfl,_⟩:=Ow.own_form q1;have R1:=zH r1;clear r1 q1 q2 q3))
 all_goals (go_end0;exact⟨rfl,R1.out⟩)
theorem rd_one {x:Nat} (h1:x≤1099511627776):rd x=(1,x):=if_pos h1
theorem rd_three:rd 2305843009213693952=(3,0):=by decide
theorem rd_two {x:Nat} (h3:4611686018427387904<x∧x≤4611686018427453439):rd x=(2,x - 4611686018427387904):=by
 unfold rd tm ever txnBit;rw[if_neg (by omega),if_neg (by omega),if_pos (by omega)]
theorem rd_none {x:Nat} (h1:¬ x≤1099511627776) (h2:¬ x=2305843009213693952) (h3:¬ (4611686018427387904<x∧x≤4611686018427453439)):rd x=(0,0):=by
 unfold rd tm ever txnBit;rw[if_neg (by omega),if_neg (by omega),if_neg (by omega)]
theorem rd_cast (x:Nat):Word.rdK (x:Int)=((rd x).1:Int)∧Word.rdN (x:Int)=((rd x).2:Int):=by
 unfold Word.rdK Word.rdN
 by_cases h1:x≤1099511627776
 · have i1:(x:Int)≤1099511627776:=by omega
   rw[rd_one h1];simp only[if_pos i1];exact⟨rfl,trivial⟩
 · have i1:¬ (x:Int)≤1099511627776:=by omega
   by_cases h2:x=2305843009213693952
   · subst h2
     rw[rd_three];exact⟨by decide,by decide⟩
   · have i2:¬ (x:Int)=2305843009213693952:=by omega
     by_cases h3:4611686018427387904<x∧x≤4611686018427453439
     · have i3:4611686018427387904<(x:Int)∧(x:Int)≤4611686018427453439:=by omega
       rw[rd_two h3];simp only[if_neg i1,if_neg i2,if_pos i3];exact⟨rfl,by omega⟩
     · have i3:¬ (4611686018427387904<(x:Int)∧(x:Int)≤4611686018427453439):=by omega
       rw[rd_none h1 h2 h3];simp only[if_neg i1,if_neg i2,if_neg i3];exact⟨rfl,rfl⟩
theorem rd_small (x:Nat) (hx:x<18446744073709551616):(rd x).1≤3∧((rd x).1=2→(rd x).2≤65535)∧(rd x).2<18446744073709551616:=by
 by_cases h1:x≤1099511627776
 · rw[rd_one h1];exact⟨by simp only;omega,by simp only;omega,hx⟩
 · by_cases h2:x=2305843009213693952
   · subst h2;rw[rd_three];exact⟨by decide,by decide,by decide⟩
   · by_cases h3:4611686018427387904<x∧x≤4611686018427453439
     · rw[rd_two h3];exact⟨by simp only;omega,by simp only;omega,by simp only;omega⟩
     · rw[rd_none h1 h2 h3];exact⟨by simp only;omega,by simp only;omega,by simp only;omega⟩
theorem rd_any (x:Nat) (hx:x<18446744073709551616) (w:World):Calls Tryz.prog 118 #[zu (x:Int)] w fun e w'=>e=.returned (.agg #[zi ((rd x).1:Int),zu ((rd x).2:Int)])∧Below w.heap.size w w':=by
 have h:=Word.read_any (x:Int) (by omega) (by omega) w;rw[(rd_cast x).1,(rd_cast x).2] at h;exact h
theorem Fix.cell {L:Lab} {w:World} {b:Nat} {cs:Array Value} {T:TypeId} (h:Fix L w b (.cells cs T)) (i:Nat) {v:Value} (hv:cs[i]? =some v):w.cell? ⟨b,i,none⟩=some v:=by rw[cell_of_row w b i _ _ _ h.2];exact hv
theorem begin_any (hR:Rep A σ w) (s:Nat) (t:Txn) (ht:σ.txns.getD s none=some t) (bh:Nat) (hu:Hunt) (hh:HuntAt (kp A σ s) A.L w bh hu) (link x:Nat) (hx:x<18446744073709551616):
 Calls Tryz.prog 301 #[.pointer (some ⟨bh,0,none⟩),zu (link:Int),zu (x:Int)] w (Tells A w s (σ,σ.beginK s hu link x)):=by
 obtain⟨hk3,hk2,hnb⟩:=rd_small x hx;have hrd:=rd_any x hx;obtain⟨r1,g1,f0,f1⟩:=allocs2 hR #[.pointer (some ⟨bh,0,none⟩)] 355 #[zu (link:Int)] 33;have hid:(σ.t s).id=t.id:=by rw[txn_get ht]
 unfold St.beginK;rw[hid];generalize hK:(rd x).1=k at*;generalize hN:(rd x).2=n at*;have hh1:=hh.grow g1;have HR:=zH (zA r1 g1);have HX:=zH hrd;have HF:=zH (zA f0 (zA f1 hh1));have HT:=zH ht;clear r1 g1 f0 f1 hh1 hh hR hrd ht hx hK hN hid
 by_cases k1:k=1
 · subst k1
   clear hk3 hk2
   by_cases hn:n≤hu.at_
   · rw[if_pos ⟨rfl,hn⟩]
     have d1:decide ((n:Int)≤(hu.at_:Int))=true:=by simpa using hn
     have d2:decide (n≤hu.at_)=true:=by simpa using hn
     clear hn hnb;go_enter Tryz.func301,Tryz.ntmps301;go_wp2_with (go_at_call 118;refine (HX.out _).mono ?_;rintro e w2 ⟨rfl,hq⟩);obtain⟨r1,g1⟩:=HR.out;obtain⟨f0,f1,hh1⟩:=HF.out;obtain⟨r3,g3,f2⟩:=allocs1 (r1.below hq) #[zi 1,zu (n:Int)] 230;have gq:=(Grow.below (L:=A.L) hq).trans g3;have F0:=f0.grow gq;have F1:=f1.grow gq;have hh3:=hh1.grow gq;have c0:=F0.cell 0 rfl;have c1:=F1.cell 0 rfl;have s0:=f2.cell 0 rfl;have s1:=f2.cell 1 rfl;obtain⟨vt,HTy,fh,hth⟩:=hh3;have h0:(w2.alloc (.cells #[zi 1,zu (n:Int)] 230)).cell? ⟨bh,1,none⟩=some (.pointer (some ⟨A.bt s,0,none⟩)):=fh.cell 1 rfl;have h3:=fh.cell 3 (v:=zu (hu.at_:Int)) rfl;have t0:(w2.alloc (.cells #[zi 1,zu (n:Int)] 230)).cell? ⟨A.bt s,0,none⟩=some (zi (t.id:Int)):=r3.txn HT.out 0 rfl;have GG:=zH (zA r3 (zA (g1.trans gq) (zA F0 (zA F1 (show HuntAt (kp A σ s) A.L _ bh hu from ⟨vt,HTy,fh,hth⟩)))));clear r1 g1 f0 f1 hh1 r3 g3 gq F0 F1 f2 fh hth hq;generalize w2.heap.size=b2 at*;generalize w2.alloc (.cells #[zi 1,zu (n:Int)] 230)=w3 at*
     go_quiet (fail)
     go_wp2_with (go_at_call 320;refine (ended_any (GG.out.1.drewN _) s bh hu (GG.out.2.2.2.2.grow (Grow.drewN _ _ _)) link 0).mono ?_;rintro e w4 ⟨A',v,rfl,q1,q2,q3,q4⟩);go_ret;exact⟨A',v,rfl,q1,(GG.out.2.1.trans (Grow.drewN _ _ _)).trans q2,q3,q4⟩
   · rw[if_neg (fun e=>hn e.2),if_pos (Or.inl (by omega))]
     have d1:decide ((n:Int)≤(hu.at_:Int))=false:=by simpa using hn
     have d2:decide (n≤hu.at_)=false:=by simpa using hn
     clear hn hnb;go_enter Tryz.func301,Tryz.ntmps301;go_wp2_with (go_at_call 118;refine (HX.out _).mono ?_;rintro e w2 ⟨rfl,hq⟩);obtain⟨r1,g1⟩:=HR.out;obtain⟨f0,f1,hh1⟩:=HF.out;obtain⟨r3,g3,f2⟩:=allocs1 (r1.below hq) #[zi 1,zu (n:Int)] 230;have gq:=(Grow.below (L:=A.L) hq).trans g3;have F0:=f0.grow gq;have F1:=f1.grow gq;have hh3:=hh1.grow gq;have c0:=F0.cell 0 rfl;have c1:=F1.cell 0 rfl;have s0:=f2.cell 0 rfl;have s1:=f2.cell 1 rfl;obtain⟨vt,HTy,fh,hth⟩:=hh3;have h0:(w2.alloc (.cells #[zi 1,zu (n:Int)] 230)).cell? ⟨bh,1,none⟩=some (.pointer (some ⟨A.bt s,0,none⟩)):=fh.cell 1 rfl;have h3:=fh.cell 3 (v:=zu (hu.at_:Int)) rfl;have t0:(w2.alloc (.cells #[zi 1,zu (n:Int)] 230)).cell? ⟨A.bt s,0,none⟩=some (zi (t.id:Int)):=r3.txn HT.out 0 rfl;have GG:=zH (zA r3 (zA (g1.trans gq) (zA F0 (zA F1 (show HuntAt (kp A σ s) A.L _ bh hu from ⟨vt,HTy,fh,hth⟩)))));clear r1 g1 f0 f1 hh1 r3 g3 gq F0 F1 f2 fh hth hq;generalize w2.heap.size=b2 at*;generalize w2.alloc (.cells #[zi 1,zu (n:Int)] 230)=w3 at*
     go_quiet (fail)
     go_wp2_with fail
     go_quiet (fail)
     go_wp2_with fail;go_wp2_with (go_at_call 321;refine (older_any (GG.out.1.drewN _) s bh hu (GG.out.2.2.2.2.grow (Grow.drewN _ _ _)) link).mono ?_;rintro e w4 ⟨A',v,rfl,q1,q2,q3,q4⟩);go_ret;exact⟨A',v,rfl,q1,(GG.out.2.1.trans (Grow.drewN _ _ _)).trans q2,q3,q4⟩
 · by_cases k2:k=2
   · subst k2
     have hn5:=hk2 rfl;rw[if_neg (by omega)];have ew:IntKind.i64.wrap (n:Int)=(n:Int):=by rw[IntKind.wrap_i64];omega
     clear hk3 hk2 k1 hnb
     by_cases hn:n=t.id
     · rw[if_pos (Or.inr hn)]
       have d1:((n:Int)==(t.id:Int))=true:=by simp;omega
       have d2:((n:Int)=(t.id:Int))=True:=by simp;omega
       clear hn hn5;go_enter Tryz.func301,Tryz.ntmps301;go_wp2_with (go_at_call 118;refine (HX.out _).mono ?_;rintro e w2 ⟨rfl,hq⟩);obtain⟨r1,g1⟩:=HR.out;obtain⟨f0,f1,hh1⟩:=HF.out;obtain⟨r3,g3,f2⟩:=allocs1 (r1.below hq) #[zi 2,zu (n:Int)] 230;have gq:=(Grow.below (L:=A.L) hq).trans g3;have F0:=f0.grow gq;have F1:=f1.grow gq;have hh3:=hh1.grow gq;have c0:=F0.cell 0 rfl;have c1:=F1.cell 0 rfl;have s0:=f2.cell 0 rfl;have s1:=f2.cell 1 rfl;obtain⟨vt,HTy,fh,hth⟩:=hh3;have h0:(w2.alloc (.cells #[zi 2,zu (n:Int)] 230)).cell? ⟨bh,1,none⟩=some (.pointer (some ⟨A.bt s,0,none⟩)):=fh.cell 1 rfl;have h3:=fh.cell 3 (v:=zu (hu.at_:Int)) rfl;have t0:(w2.alloc (.cells #[zi 2,zu (n:Int)] 230)).cell? ⟨A.bt s,0,none⟩=some (zi (t.id:Int)):=r3.txn HT.out 0 rfl;have GG:=zH (zA r3 (zA (g1.trans gq) (zA F0 (zA F1 (show HuntAt (kp A σ s) A.L _ bh hu from ⟨vt,HTy,fh,hth⟩)))));clear r1 g1 f0 f1 hh1 r3 g3 gq F0 F1 f2 fh hth hq;generalize w2.heap.size=b2 at*;generalize w2.alloc (.cells #[zi 2,zu (n:Int)] 230)=w3 at*
       go_quiet (fail)
       go_wp2_with fail
       go_quiet (fail)
       go_wp2_with (go_at_call 321;refine (older_any (GG.out.1.drewN _) s bh hu (GG.out.2.2.2.2.grow (Grow.drewN _ _ _)) link).mono ?_;rintro e w4 ⟨A',v,rfl,q1,q2,q3,q4⟩);go_ret;exact⟨A',v,rfl,q1,(GG.out.2.1.trans (Grow.drewN _ _ _)).trans q2,q3,q4⟩
     · rw[if_neg (by omega)]
       have d1:((n:Int)==(t.id:Int))=false:=by simp;omega
       have d2:((n:Int)=(t.id:Int))=False:=by simp;omega
       clear hn hn5;go_enter Tryz.func301,Tryz.ntmps301;go_wp2_with (go_at_call 118;refine (HX.out _).mono ?_;rintro e w2 ⟨rfl,hq⟩);obtain⟨r1,g1⟩:=HR.out;obtain⟨f0,f1,hh1⟩:=HF.out;obtain⟨r3,g3,f2⟩:=allocs1 (r1.below hq) #[zi 2,zu (n:Int)] 230;have gq:=(Grow.below (L:=A.L) hq).trans g3;have F0:=f0.grow gq;have F1:=f1.grow gq;have hh3:=hh1.grow gq;have c0:=F0.cell 0 rfl;have c1:=F1.cell 0 rfl;have s0:=f2.cell 0 rfl;have s1:=f2.cell 1 rfl;obtain⟨vt,HTy,fh,hth⟩:=hh3;have h0:(w2.alloc (.cells #[zi 2,zu (n:Int)] 230)).cell? ⟨bh,1,none⟩=some (.pointer (some ⟨A.bt s,0,none⟩)):=fh.cell 1 rfl;have h3:=fh.cell 3 (v:=zu (hu.at_:Int)) rfl;have t0:(w2.alloc (.cells #[zi 2,zu (n:Int)] 230)).cell? ⟨A.bt s,0,none⟩=some (zi (t.id:Int)):=r3.txn HT.out 0 rfl;have GG:=zH (zA r3 (zA (g1.trans gq) (zA F0 (zA F1 (show HuntAt (kp A σ s) A.L _ bh hu from ⟨vt,HTy,fh,hth⟩)))));clear r1 g1 f0 f1 hh1 r3 g3 gq F0 F1 f2 fh hth hq;generalize w2.heap.size=b2 at*;generalize w2.alloc (.cells #[zi 2,zu (n:Int)] 230)=w3 at*;have GA:∀ q,Rep A σ (w3.drewN q)∧Grow A.L w A.L (w3.drewN q)∧Fix A.L (w3.drewN q) w.heap.size (.cells #[.pointer (some ⟨bh,0,none⟩)] 355)∧Fix A.L (w3.drewN q) (w.heap.size+1) (.cells #[zu (link:Int)] 33)∧HuntAt (kp A σ s) A.L (w3.drewN q) bh hu:=fun q=>
        ⟨GG.out.1.drewN q,GG.out.2.1.trans (Grow.drewN _ _ q),GG.out.2.2.1.grow (Grow.drewN _ _ q),GG.out.2.2.2.1.grow (Grow.drewN _ _ q),GG.out.2.2.2.2.grow (Grow.drewN _ _ q)⟩
       have HA:=zH GA;clear GA
       go_quiet (fail)
       go_wp2_with fail
       go_quiet (fail)
       generalize hw:(w3.drewN _).drewN _=w5;have GB:Rep A σ w5∧Grow A.L w A.L w5∧Fix A.L w5 w.heap.size (.cells #[.pointer (some ⟨bh,0,none⟩)] 355)∧Fix A.L w5 (w.heap.size+1) (.cells #[zu (link:Int)] 33)∧HuntAt (kp A σ s) A.L w5 bh hu:=by
        rw[←hw];obtain⟨p1,p2,p3,p4,p5⟩:=HA.out _;exact⟨p1.drewN _,p2.trans (Grow.drewN _ _ _),p3.grow (Grow.drewN _ _ _),p4.grow (Grow.drewN _ _ _),p5.grow (Grow.drewN _ _ _)⟩
       have s15:w5.cell? ⟨b2,1,none⟩=some (zu (n:Int)):=by rw[←hw];exact s1
       have HM:=zH (allocs1 GB.1 #[zi (n:Int)] 3);have HB:=zH GB;clear GB hw;go_wp2_with fail;go_ret;obtain⟨m1,m2,m3⟩:=HM.out;obtain⟨_,p2,p3,p4,p5⟩:=HB.out;exact⟨A,_,rfl,m1,p2.trans m2,Stay.refl _ _,_,_,_,rfl,⟨_,(p3.grow m2).box,p5.grow m2⟩,m3.box,(p4.grow m2).box⟩
   · rw[if_neg (fun e=>k1 e.1),if_pos (Or.inl k2)]
     have d1:((k:Int)==1)=false:=by simp;omega
     have d2:((k:Int)=1)=False:=by simp;omega
     have d3:((k:Int)==2)=false:=by simp;omega
     have d4:((k:Int)=2)=False:=by simp;omega
     have d5:((k:Int) !=2)=true:=by simp;omega
     clear k1 k2 hk2 hk3 hnb;go_enter Tryz.func301,Tryz.ntmps301;go_wp2_with (go_at_call 118;refine (HX.out _).mono ?_;rintro e w2 ⟨rfl,hq⟩);obtain⟨r1,g1⟩:=HR.out;obtain⟨f0,f1,hh1⟩:=HF.out;obtain⟨r3,g3,f2⟩:=allocs1 (r1.below hq) #[zi (k:Int),zu (n:Int)] 230;have gq:=(Grow.below (L:=A.L) hq).trans g3;have F0:=f0.grow gq;have F1:=f1.grow gq;have hh3:=hh1.grow gq;have c0:=F0.cell 0 rfl;have c1:=F1.cell 0 rfl;have s0:=f2.cell 0 rfl;have s1:=f2.cell 1 rfl;obtain⟨vt,HTy,fh,hth⟩:=hh3;have h0:(w2.alloc (.cells #[zi (k:Int),zu (n:Int)] 230)).cell? ⟨bh,1,none⟩=some (.pointer (some ⟨A.bt s,0,none⟩)):=fh.cell 1 rfl;have h3:=fh.cell 3 (v:=zu (hu.at_:Int)) rfl;have t0:(w2.alloc (.cells #[zi (k:Int),zu (n:Int)] 230)).cell? ⟨A.bt s,0,none⟩=some (zi (t.id:Int)):=r3.txn HT.out 0 rfl;have GG:=zH (zA r3 (zA (g1.trans gq) (zA F0 (zA F1 (show HuntAt (kp A σ s) A.L _ bh hu from ⟨vt,HTy,fh,hth⟩)))));clear r1 g1 f0 f1 hh1 r3 g3 gq F0 F1 f2 fh hth hq;generalize w2.heap.size=b2 at*;generalize w2.alloc (.cells #[zi (k:Int),zu (n:Int)] 230)=w3 at*
     go_quiet (fail)
     go_wp2_with fail
     go_quiet (fail)
     go_wp2_with (go_at_call 321;refine (older_any (GG.out.1.drewN _) s bh hu (GG.out.2.2.2.2.grow (Grow.drewN _ _ _)) link).mono ?_;rintro e w4 ⟨A',v,rfl,q1,q2,q3,q4⟩);go_ret;exact⟨A',v,rfl,q1,(GG.out.2.1.trans (Grow.drewN _ _ _)).trans q2,q3,q4⟩
def ent (f:Nat→Nat) (p:Nat×Nat):MapEntry:=⟨zi (p.1:Int),ptr (f p.1),p.2⟩
theorem findNow_ent (f:Nat→Nat) (key:Nat):∀ (l:List (Nat×Nat)) (i:Nat),Instr.findNow (.int .i64) (zi (key:Int)) (l.map (ent f)) i=some none∧(∀ p∈l,p.1≠key)∨
 ∃ j,Instr.findNow (.int .i64) (zi (key:Int)) (l.map (ent f)) i=some (some (j,ptr (f key)))∧∃ p∈l,p.1=key
 |[],i=>.inl ⟨rfl,by simp⟩
 |p::l,i=>by
  by_cases h:p.1=key
  · right
    refine⟨i,?_,p,by simp,h⟩;rw[List.map_cons];unfold Instr.findNow;simp[ent,Instr.sameNow,h]
  · rcases findNow_ent f key l (i+1) with ⟨h1,h2⟩|⟨j,h1,q,hq,hk⟩
    · left
      refine⟨?_,fun q hq=>(List.mem_cons.1 hq).elim (fun e=>e ▸ h) (h2 q)⟩;rw[List.map_cons];unfold Instr.findNow;have hne:((key:Int)==(p.1:Int))=false:=by simp;omega
      simp[ent,Instr.sameNow,hne];exact h1
    · right
      refine⟨j,?_,q,by simp[hq],hk⟩;rw[List.map_cons];unfold Instr.findNow;have hne:((key:Int)==(p.1:Int))=false:=by simp;omega
      simp[ent,Instr.sameNow,hne];exact h1
theorem mapEs_ent (A:Book) (s:Nat) (t:Txn):mapEs A s t=(t.cells.reverse.zipIdx.map fun p=>(p.1.1,p.2)).map (ent (A.bx s)):=by
 unfold mapEs;rw[List.map_map];rfl
theorem lookup_mem {l:List (Nat×Cel)} {key:Nat} {x:Cel} (h:l.lookup key=some x):(key,x)∈l:=by
 induction l with
 |nil=>cases h
 |cons a l ih=>
  obtain⟨k,y⟩:=a;rw[List.lookup_cons] at h
  by_cases hk:key=k
  · subst hk
    simp at h;subst h;simp
  · rw[beq_false_of_ne hk] at h
    exact List.mem_cons_of_mem _ (ih h)
theorem cell_keys (t:Txn) (key:Nat):(∃ p∈(t.cells.reverse.zipIdx.map fun p=>(p.1.1,p.2)),p.1=key)↔(t.cell key).isSome=true:=by
 constructor
 · rintro ⟨p,hp,hk⟩
   obtain⟨q,hq,rfl⟩:=List.mem_map.1 hp;have h1:=List.mem_reverse.1 (List.fst_mem_of_mem_zipIdx hq)
   cases hc:t.cell key with
   |some x=>rfl
   |none=>exact absurd hk (lookup_none hc _ h1)
 · intro h
   cases hc:t.cell key with
   |none=>rw[hc] at h;cases h
   |some x=>
    have h1:(key,x)∈t.cells:=by
     unfold Txn.cell at hc;exact lookup_mem hc
    obtain⟨i,hi⟩:=List.getElem?_of_mem (List.mem_reverse.2 h1);refine⟨(key,i),List.mem_map.2 ⟨((key,x),i),?_,rfl⟩,rfl⟩;rw[List.mem_zipIdx_iff_getElem?];exact hi
def Book.px (A:Book) (s:Nat) (t:Txn) (key:Nat):Value:=if (t.cell key).isSome then ptr (A.bx s key) else .pointer none
theorem lookup_run (hR:Rep A σ w) {s:Nat} {t:Txn} (ht:σ.txns.getD s none=some t) (key:Nat):
 (Instr.lookup 143 (.map (some (A.bm s))) (zi (key:Int)) false).run Tryz.prog w=.ok (A.px s t key) w:=by
 have hb:=hR.map ht;have hz:(zeroValue 322).run Tryz.prog w=.ok (.pointer none) w:=by kernel_rfl
 have hck:∀ e,(Instr.checkKey e 10000 3 (zi (key:Int))).run Tryz.prog w=.ok () w:=by
  intro e;unfold Instr.checkKey;simp[run_underlying Tryz.underlying3]
 rw[mapEs_ent] at hb
 rcases findNow_ent (A.bx s) key (t.cells.reverse.zipIdx.map fun p=>(p.1.1,p.2)) 0 with ⟨h1,h2⟩|⟨j,h1,h2⟩
 · have e:A.px s t key=.pointer none:=by
    unfold Book.px;rw[if_neg];intro h;obtain⟨p,hp,hk⟩:=(cell_keys t key).2 h;exact h2 p hp hk
   rw[e];clear h2 e;generalize (t.cells.reverse.zipIdx.map fun p=>(p.1.1,p.2)).map (ent (A.bx s))=es at*;simp[Instr.lookup,run_underlying Tryz.underlying143,run_underlying Tryz.underlying3,MapKept.run_getObj_map hb,hck,Instr.findKey,h1,hz,Result.andThen]
 · have e:A.px s t key=ptr (A.bx s key):=by
    unfold Book.px;rw[if_pos ((cell_keys t key).1 h2)]
   rw[e];clear h2 e;generalize (t.cells.reverse.zipIdx.map fun p=>(p.1.1,p.2)).map (ent (A.bx s))=es at*;simp[Instr.lookup,run_underlying Tryz.underlying143,run_underlying Tryz.underlying3,MapKept.run_getObj_map hb,hck,Instr.findKey,h1,Result.andThen]
theorem needs_any (hR:Rep A σ w) (s:Nat) (t:Txn) (ht:σ.txns.getD s none=some t) (key link:Nat) (got:Bool):
 Calls Tryz.prog 242 #[.pointer (some ⟨A.bt s,0,none⟩),.agg #[zi (key:Int),zu (link:Int),.bool got]] w fun e w'=>e=.returned (.bool (t.needs (key,link,got)))∧Below w.heap.size w w':=by
 obtain⟨r1,g1,f0⟩:=allocs1 hR #[zi (key:Int),zu (link:Int),.bool got] 359;have hbl:Below w.heap.size w (w.alloc (.cells #[zi (key:Int),zu (link:Int),.bool got] 359)):=(Below.refl _ _).alloc (Nat.le_refl _) _;have c0:=f0.cell 0 (v:=zi (key:Int)) rfl;have c2:=f0.cell 2 (v:=.bool got) rfl;have t7:=r1.txn ht 7 (v:=.map (some (A.bm s))) rfl;have t1:=r1.txn ht 1 (v:=zi (t.level:Int)) rfl;have hlk:∀ n,(Instr.lookup 143 (.map (some (A.bm s))) (zi (key:Int)) false).run Tryz.prog ((w.alloc (.cells #[zi (key:Int),zu (link:Int),.bool got] 359)).drewN n)=.ok (A.px s t key) ((w.alloc (.cells #[zi (key:Int),zu (link:Int),.bool got] 359)).drewN n):=fun n=>lookup_run (r1.drewN n) ht key
 have HBL:=zH hbl;clear hR ht r1 g1 f0 hbl;unfold Txn.needs;unfold Book.px at hlk;generalize t.level=lv at*
 by_cases hx:(t.cell key).isSome=true
 · rw[if_pos hx] at hlk
   have hnone:(t.cell key).isNone=false:=by cases h:t.cell key<;>simp[h] at hx ⊢
   have HN:=zH hnone;clear hx hnone;go_enter Tryz.func242,Tryz.ntmps242;go_wp2_with fail;generalize w.alloc (.cells #[zi (key:Int),zu (link:Int),.bool got] 359)=w2 at*
   go_quiet (fail)
   go_wp2_with fail;go_ret;exact⟨by simp[HN.out],HBL.out.trans ⟨rfl,rfl,rfl,Nat.le_refl _,fun _ _=>rfl⟩⟩
 · rw[if_neg hx] at hlk
   have hnone:(t.cell key).isNone=true:=by cases h:t.cell key<;>simp[h] at hx ⊢
   have HN:=zH hnone;clear hx hnone
   by_cases h3:lv=3
   · have H3:=zH h3
     have a3:((lv:Int)==3)=true:=by simp;omega
     have b3:((lv:Int)=3)=True:=by simp;omega
     clear h3;go_enter Tryz.func242,Tryz.ntmps242;go_wp2_with fail;generalize w.alloc (.cells #[zi (key:Int),zu (link:Int),.bool got] 359)=w2 at*
     go_quiet (fail)
     go_wp2_with fail;go_ret;exact⟨by simp[HN.out,H3.out],HBL.out.trans ⟨rfl,rfl,rfl,Nat.le_refl _,fun _ _=>rfl⟩⟩
   · by_cases h2:lv=2
     · have H3:=zH h2
       have a3:((lv:Int)==3)=false:=by simp;omega
       have b3:((lv:Int)=3)=False:=by simp;omega
       have a2:((lv:Int)==2)=true:=by simp;omega
       have b2:((lv:Int)=2)=True:=by simp;omega
       clear h3 h2;go_enter Tryz.func242,Tryz.ntmps242;go_wp2_with fail;generalize w.alloc (.cells #[zi (key:Int),zu (link:Int),.bool got] 359)=w2 at*
       go_quiet (fail)
       go_wp2_with fail;go_ret;exact⟨by simp[HN.out,H3.out],HBL.out.trans ⟨rfl,rfl,rfl,Nat.le_refl _,fun _ _=>rfl⟩⟩
     · have H3:=zH (zA h3 h2)
       have a3:((lv:Int)==3)=false:=by simp;omega
       have b3:((lv:Int)=3)=False:=by simp;omega
       have a2:((lv:Int)==2)=false:=by simp;omega
       have b2:((lv:Int)=2)=False:=by simp;omega
       clear h3 h2;go_enter Tryz.func242,Tryz.ntmps242;go_wp2_with fail;generalize w.alloc (.cells #[zi (key:Int),zu (link:Int),.bool got] 359)=w2 at*
       go_quiet (fail)
       go_wp2_with fail;go_ret;exact⟨by simp[HN.out,H3.out.1,H3.out.2],HBL.out.trans ⟨rfl,rfl,rfl,Nat.le_refl _,fun _ _=>rfl⟩⟩
theorem mine_any (hR:Rep A σ w) (s:Nat) (t:Txn) (ht:σ.txns.getD s none=some t) (h1:1≤t.id) (h2:t.id≤65535):
 Calls Tryz.prog 208 #[.pointer (some ⟨A.bt s,0,none⟩)] w fun e w'=>e=.returned (zu ((mine t:Nat):Int))∧w=w':=by
 have c0:w.cell? ⟨A.bt s,0,none⟩=some (zi (t.id:Int)):=hR.txn ht 0 rfl;have e:((mine t:Nat):Int)=4611686018427387904+(t.id:Int):=by unfold mine txnBit;omega
 have hw:=Word.txn_yes (t.id:Int) (by omega) (by omega) w;rw[e];have HW:=zH hw;clear hR ht h1 h2 e hw;go_enter Tryz.func208,Tryz.ntmps208;go_wp2_with (go_at_call 246;refine HW.out.mono ?_;rintro e w' ⟨rfl,rfl⟩);go_ret;exact⟨rfl,rfl⟩
theorem wait_any (hR:Rep A σ w) (s:Nat) (t:Txn) (ht:σ.txns.getD s none=some t) (i:Nat):
 Calls Tryz.prog 243 #[.pointer (some ⟨A.be,0,none⟩),.pointer (some ⟨A.bt s,0,none⟩),.pointer (some ⟨A.bc s,0,none⟩),zi (i:Int)] w (Tells A w s (σ,waitK t i)):=by
 obtain⟨r4,g4,f0,f1,f2,f3⟩:=allocs4 hR #[.pointer (some ⟨A.be,0,none⟩)] 85 #[.pointer (some ⟨A.bt s,0,none⟩)] 123 #[.pointer (some ⟨A.bc s,0,none⟩)] 125 #[zi (i:Int)] 3;have c0:=f0.cell 0 (v:=.pointer (some ⟨A.be,0,none⟩)) rfl;have c1:=f1.cell 0 (v:=.pointer (some ⟨A.bt s,0,none⟩)) rfl;have c2:=f2.cell 0 (v:=.pointer (some ⟨A.bc s,0,none⟩)) rfl;have c3:=f3.cell 0 (v:=zi (i:Int)) rfl;have t9:=r4.txn ht 9 (v:=A.vbonds s) rfl;have hown:=(r4.mem.all (.bonds s))
 rw[mem_bonds ht] at hown;obtain⟨av,capv,hv,_⟩:=Ow.own_form hown.1;rw[hv] at t9;have HR:=zH (zA r4 (zA g4 (zA f0 (zA f1 (zA f2 f3)))));clear hR ht r4 g4 f0 f1 f2 f3 hown hv;unfold waitK;generalize t.bonds.length=n at*
 by_cases hi:i=n
 · rw[if_pos hi]
   have d1:((i:Int)==(n:Int))=true:=by simp;omega
   have d2:(i==n)=true:=by simp;omega
   have d3:((i:Int)=(n:Int))=True:=by simp;omega
   clear hi;go_enter Tryz.func243,Tryz.ntmps243;go_wp2_with fail;generalize (((w.alloc _).alloc _).alloc _).alloc _=w4 at*
   go_quiet (fail)
   go_wp2_with (go_at_call 276;refine (commit_any (HR.out.1.drewN _) s).mono ?_;rintro e w2 ⟨A2,v,rfl,p1,p2,p3,p4⟩);go_ret;exact⟨A2,v,rfl,p1,(HR.out.2.1.trans (Grow.drewN _ _ _)).trans p2,p3,p4⟩
 · rw[if_neg hi]
   have d1:((i:Int)==(n:Int))=false:=by simp;omega
   have d2:(i==n)=false:=by simp;omega
   have d3:((i:Int)=(n:Int))=False:=by simp;omega
   clear hi;go_enter Tryz.func243,Tryz.ntmps243;go_wp2_with fail;generalize hw4:(((w.alloc _).alloc _).alloc _).alloc _=w4 at*;have hz:w4.heap.size=w.heap.size+1+1+1+1:=by rw[←hw4];simp
   have HZ:=zH hz;clear hz hw4
   go_quiet (fail)
   generalize hw:w4.drewN _=w5;obtain⟨r,g,f0,f1,f2,f3⟩:=HR.out;have g5:Grow A.L w4 A.L w5:=by rw[←hw];exact Grow.drewN _ _ _
   have r5:Rep A σ w5:=by rw[←hw];exact r.drewN _
   obtain⟨r6,g6,f4⟩:=allocs1 r5 #[.func (.func 277) #[] #[.pointer (some ⟨w.heap.size,0,none⟩),.pointer (some ⟨w.heap.size+1,0,none⟩),.pointer (some ⟨w.heap.size+1+1+1,0,none⟩),.pointer (some ⟨w.heap.size+1+1,0,none⟩),.pointer (some ⟨w5.heap.size,0,none⟩)]] 235;have gg:=g5.trans g6;have HQ:=zH (zA r6 (zA (g.trans gg) (zA (f0.grow gg) (zA (f1.grow gg) (zA (f3.grow gg) (zA (f2.grow gg) f4))))));clear r g f0 f1 f2 f3 g5 r5 r6 g6 f4 gg hw;go_wp2_with fail;go_ret;obtain⟨q1,q2,q3,q4,q5,q6,q7⟩:=HQ.out;exact⟨A,_,rfl,q1,q2,Stay.refl _ _,_,_,_,_,_,rfl,q3.box,q4.box,q5.box,q6.box,q7.box⟩
theorem disable (w:World):(callFunc 312 #[]).run Tryz.prog w=.ok (.value (.tuple #[])) w:=run_call_mark0 Tryz.func312 (by kernel_rfl) (by kernel_rfl) (by kernel_rfl) .disable (by kernel_rfl) w
theorem enable (w:World):(callFunc 314 #[]).run Tryz.prog w=.ok (.value (.tuple #[])) w:=run_call_mark0 Tryz.func314 (by kernel_rfl) (by kernel_rfl) (by kernel_rfl) .enable (by kernel_rfl) w
theorem acquire (a:Addr) (w:World):(callFunc 315 #[.pointer (some a)]).run Tryz.prog w=.ok (.value (.tuple #[])) w:=run_call_marked Tryz.func315 (by kernel_rfl) (by kernel_rfl) (by kernel_rfl) .acquire (by kernel_rfl) a w
theorem releaseMerge (a:Addr) (w:World):(callFunc 317 #[.pointer (some a)]).run Tryz.prog w=.ok (.value (.tuple #[])) w:=run_call_marked Tryz.func317 (by kernel_rfl) (by kernel_rfl) (by kernel_rfl) .releaseMerge (by kernel_rfl) a w
theorem store_deferred (a:Addr) (x:Value) (u:FrameMode) (w:World) (hc:w.cell? a=some x) (hz:w.frozen? a=false):
 CallsD Tryz.prog 263 #[.pointer (some a),.bool true] u w fun e u' w'=>u'=u∧(e=.returned (.tuple #[])∧w'=w.drew.setCell a (.int .u32 1)):=by
 have hc':w.drew.cell? a=some x:=by go_simp
 have hz':w.drew.frozen? a=false:=by go_simp
 have hst:=run_call_store (P:=Tryz.prog) Tryz.func296 (by kernel_rfl) (by kernel_rfl) (by kernel_rfl) (by kernel_rfl) (k:=.u32) (y:=1) hc' hz'
 go_enter_d Tryz.func263,Tryz.ntmps263
 go_wp2
 go_region_calls
 all_goals (go_end0;exact⟨rfl,rfl⟩)
theorem unlock_deferred (a:Addr) (u:FrameMode) (w:World) (hc:w.cell? a=some (.int .i32 1)) (hz:w.frozen? a=false):
 CallsD Tryz.prog 262 #[.pointer (some a)] u w fun e u' w'=>u'=u∧(e=.returned (.tuple #[])∧w'=w.setCell a (.int .i32 0)):=by
 have hd:=disable;have he:=enable;have hr:=releaseMerge;have hadd:=run_call_add (P:=Tryz.prog) Tryz.func318 (by kernel_rfl) (by kernel_rfl) (by kernel_rfl) .i32 (by kernel_rfl) (y:=-1) (s:=0) hc hz (by simp[go_sem];rfl);have hcv:=run_convert_to_unsafe (P:=Tryz.prog) (src:=396) (dst:=136) Tryz.underlying396 Tryz.underlying136 (by kernel_rfl) hc
 go_enter_d Tryz.func262,Tryz.ntmps262
 go_wp2
 go_end0
 go_wp2
 go_end0
 exact⟨rfl,rfl⟩
theorem lock_free (a:Addr) (w:World) (hc:w.cell? a=some (.int .i32 0)) (hz:w.frozen? a=false):
 Calls Tryz.prog 261 #[.pointer (some a)] w fun e w'=>e=.returned (.tuple #[])∧w'=w.setCell a (.int .i32 1):=by
 have hd:=disable;have he:=enable;have ha:=acquire;have hcas:=run_call_cas_hit (P:=Tryz.prog) Tryz.func313 (by kernel_rfl) (by kernel_rfl) (by kernel_rfl) .i32 (by kernel_rfl) (y:=1) hc hz;have hc':(w.setCell a (.int .i32 1)).cell? a=some (.int .i32 1):=World.cell?_setCell_same w a _ hc;have hcv:=run_convert_to_unsafe (P:=Tryz.prog) (src:=396) (dst:=136) Tryz.underlying396 Tryz.underlying136 (by kernel_rfl) hc';go_enter Tryz.func261,Tryz.ntmps261;go_wp2
 first|go_end0|(simp only[Exit.inBlock,Exit.then];refine bodyPost_ret (results_none rfl _ _ _) rfl ?_)|refine bodyPost_ret (results_none rfl _ _ _) rfl ?_
 go_wp2
 go_end0
 exact⟨rfl,rfl⟩
structure Held (b off:Nat) (w:World):Prop where
 d:w.cell? ⟨b,off,none⟩=some (.int .u32 0)
 m:w.cell? ⟨b,off+1,none⟩=some (.int .i32 1)
 zd:w.frozen? ⟨b,off,none⟩=false
 zm:w.frozen? ⟨b,off+1,none⟩=false
def onceEnd (b off:Nat) (w:World):World:=(w.drew.setCell ⟨b,off,none⟩ (.int .u32 1)).setCell ⟨b,off+1,none⟩ (.int .i32 0)
theorem slow_any (b off fc:Nat) (caps:Array Value) (w:World) (Q:World→Prop) (h0:w.cell? ⟨b,off,none⟩=some (.int .u32 0)) (h1:w.cell? ⟨b,off+1,none⟩=some (.int .i32 0))
 (f0:w.frozen? ⟨b,off,none⟩=false) (f1:w.frozen? ⟨b,off+1,none⟩=false)
 (he:∀ w,(callFunc fc caps).run Tryz.prog w=.ok (.enter fc caps) w)
 (hf:Calls Tryz.prog fc caps (w.setCell ⟨b,off+1,none⟩ (.int .i32 1)) fun e w'=>e=.returned (.tuple #[])∧Q w') (hq:∀ w',Q w'→Held b off w'):
 Calls Tryz.prog 219 #[.pointer (some ⟨b,off,none⟩),.func (.func fc) #[] caps] w fun e w'=>e=.returned (.tuple #[])∧∃ w2,Q w2∧w'=onceEnd b off w2:=by
 have hl:=run_call_load (P:=Tryz.prog) Tryz.func260 (by kernel_rfl) (by kernel_rfl) (by kernel_rfl) .u32 (by kernel_rfl) (w:=w.setCell ⟨b,off+1,none⟩ (.int .i32 1)) (a:=⟨b,off,none⟩) (x:=0) ((World.cell?_setCell_other _ ⟨b,off+1,none⟩ ⟨b,off,none⟩ _ (by simp)).trans h0);have hnot:∀ (x:Bool) (w:World),(Op.unary .not (.bool x)).run Tryz.prog w=.ok (.bool (!x)) w:=fun _ _=>rfl
 have HF:=zH hf;have HQ:=zH hq;clear hf hq
 go_enter_defers Tryz.func219,Tryz.ntmps219
 go_wp2_with (first|(go_at_call 261;refine (lock_free ⟨b,off+1,none⟩ _ (by go_simp) (by go_simp)).mono ?_;rintro e w' ⟨rfl,rfl⟩)|(go_at_call 218;go_in));refine HF.out.mono ?_;rintro e w2 ⟨rfl,hw2⟩;go_wp2;refine leaves_cons (f:=263) (args:=#[.pointer (some ⟨b,off,none⟩),.bool true]) (by simp) (by simp[go_sem]) ?_;have HH:=HQ.out w2 hw2;refine (store_deferred ⟨b,off,none⟩ (.int .u32 0) .returning _ HH.d HH.zd).mono ?_;rintro e u' w'' ⟨rfl,rfl,rfl⟩;refine leaves_cons (f:=262) (args:=#[.pointer (some ⟨b,off+1,none⟩)]) (by simp[settle]) (by simp[go_sem]) ?_;refine (unlock_deferred ⟨b,off+1,none⟩ _ _ ?_ ?_).mono ?_
 · refine (World.cell?_setCell_other _ ⟨b,off,none⟩ ⟨b,off+1,none⟩ _ (by simp)).trans ?_
   rw[World.cell?_drew];exact HH.m
 · simp[HH.zm]
 rintro e u' w'' ⟨rfl,rfl,rfl⟩;simp[Leaves,settle,results,Tryz.results219];exact⟨w2,hw2,rfl⟩
theorem do_first (b off fc:Nat) (caps:Array Value) (w:World) (Q:World→Prop) (h0:w.cell? ⟨b,off,none⟩=some (.int .u32 0)) (h1:w.cell? ⟨b,off+1,none⟩=some (.int .i32 0))
 (f0:w.frozen? ⟨b,off,none⟩=false) (f1:w.frozen? ⟨b,off+1,none⟩=false)
 (he:∀ w,(callFunc fc caps).run Tryz.prog w=.ok (.enter fc caps) w)
 (hf:Calls Tryz.prog fc caps (w.setCell ⟨b,off+1,none⟩ (.int .i32 1)) fun e w'=>e=.returned (.tuple #[])∧Q w') (hq:∀ w',Q w'→Held b off w'):
 Calls Tryz.prog 181 #[.pointer (some ⟨b,off,none⟩),.func (.func fc) #[] caps] w fun e w'=>e=.returned (.tuple #[])∧∃ w2,Q w2∧w'=onceEnd b off w2:=by
 have HS:=zH (slow_any b off fc caps w Q h0 h1 f0 f1 he hf hq);have hl:=run_call_load (P:=Tryz.prog) Tryz.func260 (by kernel_rfl) (by kernel_rfl) (by kernel_rfl) .u32 (by kernel_rfl) h0;have hnot:∀ (x:Bool) (w:World),(Op.unary .not (.bool x)).run Tryz.prog w=.ok (.bool (!x)) w:=fun _ _=>rfl
 clear he hf hq;go_enter Tryz.func181,Tryz.ntmps181;go_wp2_with (first|(go_at_call 219;refine HS.out.mono ?_;rintro e w' ⟨rfl,hw⟩)|(go_at_call 218;go_in))
 go_end0
 exact⟨rfl,hw⟩
theorem enter_list (caps:Array Value) (w:World):(callFunc 182 caps).run Tryz.prog w=.ok (.enter 182 caps) w:=by kernel_rfl
theorem enter_tell (caps:Array Value) (w:World):(callFunc 245 caps).run Tryz.prog w=.ok (.enter 245 caps) w:=by kernel_rfl
theorem do_done (a:Addr) (fv:Value) (w:World) (h0:w.cell? a=some (.int .u32 1)):
 Calls Tryz.prog 181 #[.pointer (some a),fv] w fun e w'=>e=.returned (.tuple #[])∧w'=w:=by
 have hl:=run_call_load (P:=Tryz.prog) Tryz.func260 (by kernel_rfl) (by kernel_rfl) (by kernel_rfl) .u32 (by kernel_rfl) h0;have hnot:∀ (x:Bool) (w:World),(Op.unary .not (.bool x)).run Tryz.prog w=.ok (.bool (!x)) w:=fun _ _=>rfl
 go_enter Tryz.func181,Tryz.ntmps181;go_wp2
 go_end0
 exact⟨rfl,rfl⟩
theorem pairCs_len:∀ l:List (Nat×Nat),(pairCs l).length=l.length*2
 |[]=>rfl
 |p::l=>by have:=pairCs_len l;simp[pairCs,two] at this ⊢;omega
theorem own_row {w:World} {base:Nat} {e:TypeId} {size:Nat} {v:Value} {n:Nat} {xs:List Value} (h:w.ownsRow base e size v n xs):Ow.Row w base size v xs:=by
 obtain⟨a,cap,rfl,h1,h2,a',m,c,e0,h3,h4,h5,h6⟩:=Ow.own_form h;simp only[Value.slice.injEq] at e0;obtain⟨rfl,rfl,rfl⟩:=e0;exact⟨a,n,cap,rfl,h3,h1,by unfold maxLen;omega,h6⟩
end Go.Proofs.YtiimlopcifljeaaGreatDoor.Em
