import Derived.Test.YthicolbbmjfkfaaGreatQn0
import Derived.Laws.BitsAllLaws
import Derived.Laws.Bits64
import Derived.Laws.BitsLemmas
import Derived.Test.YthicolbbmjfkfaaGreatProg
import Derived.WalkKit
import Derived.ProofKit
import Derived.OpenShut
import Derived.WalkLawsBesides
import Derived.WalkSpells
import Derived.Outline
import Derived.Laws.AppendOwn
import Derived.Laws.NewBlocks
import Derived.Laws.CopyOwn
import Derived.Laws.OwnMore
import Derived.Laws.AppendOwnNone
import Derived.ArgAppend
set_option linter.unusedVariables false
set_option linter.unusedSimpArgs false
set_option maxRecDepth 100000
set_option maxHeartbeats 1600000
namespace Go.Proofs.YthicolbbmjfkfaaGreat.Bt
open Go
theorem Ff (x:Int) (i:Nat) (hi:i<=64):(x % (2 ^ 64:Nat)).toNat % 2 ^ i=(x % (2 ^ i:Nat)).toNat:=by
 have hp:(0:Int)<((2 ^ i:Nat):Int):=by exact_mod_cast Nat.two_pow_pos i
 have hd:((2 ^ i:Nat):Int)∣((2 ^ 64:Nat):Int):=by exact_mod_cast Nat.pow_dvd_pow 2 hi
 have h1:(x % ((2 ^ 64:Nat):Int)) % ((2 ^ i:Nat):Int)=x % ((2 ^ i:Nat):Int):=Int.emod_emod_of_dvd x hd;have h0:0<=x % ((2 ^ 64:Nat):Int):=Int.emod_nonneg _ (by decide);rw[<-h1];generalize x % ((2 ^ 64:Nat):Int)=y at h0 ⊢;obtain⟨n,rfl⟩:=Int.eq_ofNat_of_zero_le h0;rw[<-Int.natCast_emod,Int.toNat_natCast,Int.toNat_natCast]
theorem pq (x:Int) (i:Nat) (hi:i<=63):bits .and .u64 x (((2 ^ i - 1:Nat)):Int)=x % ((2 ^ i:Nat):Int):=by
 have hlt:2 ^ i - 1<2 ^ 64:=sG (Nat.sub_lt (Nat.two_pow_pos i) (by decide)) (Nat.pow_le_pow_right (by decide) (by omega));have hw:∀ n:Nat,n<2 ^ 63->IntKind.u64.wrap (n:Int)=n:=by
  intro n hn;rw[IntKind.wrap_u64];omega
 have hp:(0:Int)<((2 ^ i:Nat):Int):=by exact_mod_cast Nat.two_pow_pos i
 have h0:=Int.emod_nonneg x (Int.ne_of_gt hp);have hm:(x % ((2 ^ i:Nat):Int)).toNat<2 ^ i:=by
  have:=Int.emod_lt_of_pos x hp;omega
 show IntKind.u64.wrap (((BitVec.ofInt 64 x &&&BitVec.ofInt 64 ((2 ^ i - 1:Nat):Int)).toNat:Nat):Int)=_;rw[BitVec.ofInt_natCast,BitVec.toNat_and,BitVec.toNat_ofNat,BitVec.toNat_ofInt,Nat.mod_eq_of_lt hlt];rw[Nat.and_two_pow_sub_one_eq_mod,Ff x i (by omega)];rw[hw _ (sG hm (Nat.pow_le_pow_right (by decide) hi))];omega
theorem KA (x:Int):bits .and .u64 x 7=x % 8:=pq x 3 (by omega)
theorem sW (x:Int):bits .and .u64 x 65535=x % 65536:=pq x 16 (by omega)
theorem yU (x:Int):bits .and .u64 x 131071=x % 131072:=pq x 17 (by omega)
theorem nat_bit40 (n:Nat):n &&&1099511627776=n / 1099511627776 % 2*1099511627776:=nat_bit 40 n
theorem Bb (x:Int) (h0:0<=x) (h1:x<18446744073709551616):bits .and .u64 x 1099511627776=x / 1099511627776 % 2*1099511627776:=by
 rw[u64_and x 1099511627776 h0 h1 (by decide) (by decide)];show ((x.toNat &&&1099511627776:Nat):Int)=_;rw[nat_bit40];omega
theorem KC (t s:Int) (h0:0<=t) (h1:t<=65535) (h2:0<=s) (h3:s<=65536):bits .or .u64 (t*131072) s=t*131072+s:=by
 obtain⟨a,rfl⟩:=Int.eq_ofNat_of_zero_le h0;obtain⟨b,rfl⟩:=Int.eq_ofNat_of_zero_le h2;rw[u64_or _ _ (by omega) (by omega) (by omega) (by omega)];rw[show ((a:Int)*131072).toNat=2 ^ 17*a from by omega,show ((b:Int)).toNat=b from by omega];rw[<-Nat.two_pow_add_eq_or_of_lt (i:=17) (b:=b) (by omega) a];omega
theorem NK (t s:Int) (h0:0<=t) (h1:t<2305843009213693952) (h2:0<=s) (h3:s<8):bits .or .u64 (t*8) s=t*8+s:=by
 obtain⟨a,rfl⟩:=Int.eq_ofNat_of_zero_le h0;obtain⟨b,rfl⟩:=Int.eq_ofNat_of_zero_le h2;rw[u64_or _ _ (by omega) (by omega) (by omega) (by omega)];rw[show ((a:Int)*8).toNat=2 ^ 3*a from by omega,show ((b:Int)).toNat=b from by omega];rw[<-Nat.two_pow_add_eq_or_of_lt (i:=3) (b:=b) (by omega) a];omega
theorem u64_or16 (t s:Int) (h0:0<=t) (h1:t<281474976710656) (h2:0<=s) (h3:s<65536):bits .or .u64 (t*65536) s=t*65536+s:=by
 obtain⟨a,rfl⟩:=Int.eq_ofNat_of_zero_le h0;obtain⟨b,rfl⟩:=Int.eq_ofNat_of_zero_le h2;rw[u64_or _ _ (by omega) (by omega) (by omega) (by omega)];rw[show ((a:Int)*65536).toNat=2 ^ 16*a from by omega,show ((b:Int)).toNat=b from by omega];rw[<-Nat.two_pow_add_eq_or_of_lt (i:=16) (b:=b) (by omega) a];omega
end Go.Proofs.YthicolbbmjfkfaaGreat.Bt
namespace Go.Proofs.YthicolbbmjfkfaaGreat.Word
open Go.ChangeShapes Go.WideShapes Go.ChangeAt Go.RowKit
theorem qp (w:World):Calls Tryz.prog 127 #[] w fun e E=>e=.returned (.int .u64 2305843009213693952)∧w=E:=by
 go_enter Tryz.func127,Tryz.ntmps127;go_wp2;go_ret;exact⟨rfl,rfl⟩
theorem KD (t:Int) (h0:0<=t) (h1:t<=1099511627776) (w:World):Calls Tryz.prog 185 #[.int .u64 t] w fun e E=>e=.returned (.tuple #[.int .u64 t,.bool true])∧w=E:=by
 go_enter Tryz.func185,Tryz.ntmps185;go_wp2
 go_ret2
 exact⟨rfl,rfl⟩
theorem NL (t:Int) (h0:1<=t) (h1:t<=65535) (w:World):Calls Tryz.prog 148 #[.int .i64 t] w fun e E=>e=.returned (.tuple #[.int .u64 (4611686018427387904+t),.bool true])∧w=E:=by
 go_enter Tryz.func148,Tryz.ntmps148;go_wp2
 go_ret2
 exact⟨rfl,rfl⟩
def Vh (t:Int):Int:=if t<=1099511627776 then 1 else if t=2305843009213693952 then 3 else if 4611686018427387904<t∧t<=4611686018427453439 then 2 else 0
def Vi (t:Int):Int:=if t<=1099511627776 then t else if 4611686018427387904<t∧t<=4611686018427453439 then t - 4611686018427387904 else 0
theorem oH (t:Int) (h0:0<=t) (hu:t<18446744073709551616) (w:World):Calls Tryz.prog 108 #[.int .u64 t] w fun e E=>e=.returned (.agg #[.int .i64 (Vh t),.int .u64 (Vi t)])∧Below w.heap.size w E:=by
 unfold Vh Vi
 by_cases h1:t<=1099511627776
 . rw[aV h1,aV h1]
   go_enter Tryz.func108,Tryz.ntmps108;go_wp2;exact bodyPost_ret (v:=.agg #[.int .i64 1,.int .u64 t]) (by simp[results,Tryz.results108,go_sem]) rfl ⟨rfl,(Below.refl _ _).alloc (zr _) _⟩
 . rw[aR h1,aR h1]
   by_cases h2:t=2305843009213693952
   . subst h2
     go_enter Tryz.func108,Tryz.ntmps108;go_wp2;exact bodyPost_ret (v:=.agg #[.int .i64 3,.int .u64 0]) (by simp[results,Tryz.results108,go_sem]) rfl ⟨rfl,(Below.refl _ _).alloc (zr _) _⟩
   . rw[aR h2]
     have e2:(t==2305843009213693952)=false:=beq_eq_false_iff_ne.2 h2
     by_cases h3:4611686018427387904<t∧t<=4611686018427453439
     . rw[aV h3,aV h3]
       obtain⟨h3,h4⟩:=h3;go_enter Tryz.func108,Tryz.ntmps108;go_wp2;exact bodyPost_ret (v:=.agg #[.int .i64 2,.int .u64 (t - 4611686018427387904)]) (by simp[results,Tryz.results108,go_sem]) rfl ⟨rfl,(Below.refl _ _).alloc (zr _) _⟩
     . rw[aR h3,aR h3]
       by_cases h4:4611686018427387904<t
       . have h5:4611686018427453439<t:=by omega
         clear h3;go_enter Tryz.func108,Tryz.ntmps108;go_wp2;exact bodyPost_ret (v:=.agg #[.int .i64 0,.int .u64 0]) (by simp[results,Tryz.results108,go_sem]) rfl ⟨rfl,(Below.refl _ _).alloc (zr _) _⟩
       . clear h3
         go_enter Tryz.func108,Tryz.ntmps108;go_wp2;exact bodyPost_ret (v:=.agg #[.int .i64 0,.int .u64 0]) (by simp[results,Tryz.results108,go_sem]) rfl ⟨rfl,(Below.refl _ _).alloc (zr _) _⟩
theorem KE (s t:Int) (h0:0<=s) (h1:s<=65535) (h2:0<=t) (h3:t<=65535) (w:World):Calls Tryz.prog 178 #[.int .i64 s,.int .i64 t] w fun e E=>e=.returned (.tuple #[.int .u64 (t*131072+(s+1)),.bool true])∧w=E:=by
 have e1:=Bt.KC t (s+1) h2 h3 (by omega) (by omega);go_enter Tryz.func178,Tryz.ntmps178;go_wp2
 go_ret2
 exact⟨rfl,rfl⟩
theorem Fg (x:Int) (h0:-9223372036854775808<=x) (h1:x<9223372036854775808):wrap64 x=x:=by
 unfold wrap64;omega
theorem NM {a b a' b':Int} {c c':Bool} (h1:a=a') (h2:b=b') (h3:c=c'):Ending.returned (.tuple #[.int .i64 a,.int .i64 b,.bool c])=.returned (.tuple #[.int .i64 a',.int .i64 b',.bool c']):=by
 rw[h1,h2,h3]
theorem pz (t:Int) (h0:0<=t) (hu:t<18446744073709551616) (w:World):Calls Tryz.prog 107 #[.int .u64 t] w fun e E=>e=.returned (.tuple #[.int .i64 (t % 131072 - 1),.int .i64 (t / 131072 % 65536),.bool (t / 1099511627776 % 2==1)])∧w=E:=by
 go_enter Tryz.func107,Tryz.ntmps107;go_wp2
 go_ret3
 refine⟨NM ?_ ?_ ?_,rfl⟩
 . rw[Bt.yU,Fg (t % 131072) (by omega) (by omega),Fg _ (by omega) (by omega)]
 . rw[Bt.sW,Fg _ (by omega) (by omega)]
 . rw[Bt.Bb t h0 hu,Bool.eq_iff_iff]
   simp only[bne_iff_ne,beq_iff_eq];omega
end Go.Proofs.YthicolbbmjfkfaaGreat.Word
namespace Go.Proofs.YthicolbbmjfkfaaGreat.Ow
open Go.ChangeShapes Go.WideShapes Go.ChangeAt Go.RowKit
theorem own_below {w Y:World} {base:Nat} {e:TypeId} {size:Nat} {v:Value} {n:Nat} {xs:List Value} (h:w.ownsRow base e size v n xs) (hb:Below w.heap.size w Y):Y.ownsRow base e size v n xs:=by
 refine⟨h.1,?_⟩
 rcases h.2 with h0|⟨g,cap,cur,h1,h2,h3,h4⟩
 . exact .inl h0
 . refine .inr ⟨g,cap,cur,h1,h2,?_,h4⟩
   have hlt:g<w.heap.size:=(Array.getElem?_eq_some_iff.1 h3).1;rw[hb.block g hlt,h3]
def Row (w:World) (base size:Nat) (v:Value) (xs:List Value):Prop:=
 ∃ a n cap,v=.slice a n cap∧xs.length=n*size∧n<=cap∧cap<=maxLen∧(n=0∨∃ g off,a=some ⟨g,off,none⟩∧base<=g∧g<w.heap.size∧∀ j,j<n*size->w.cell? ⟨g,off+j,none⟩=xs[j]?)
theorem Row.below {w Y:World} {base size:Nat} {v:Value} {xs:List Value} (h:Row w base size v xs) (hb:Below w.heap.size w Y):Row Y base size v xs:=by
 obtain⟨a,n,cap,h1,h2,h3,h4,h5⟩:=h;refine⟨a,n,cap,h1,h2,h3,h4,?_⟩
 rcases h5 with h5|⟨g,off,e1,e2,e3,e4⟩
 . exact .inl h5
 . refine .inr ⟨g,off,e1,e2,sG e3 hb.size,fun j hj=>?_⟩
   rw[hb.cell (p:=⟨g,off+j,none⟩) e3];exact e4 j hj
theorem bN {w:World} {base:Nat} {e:TypeId} {size:Nat} {v:Value} {n:Nat} {xs:List Value} (h:w.ownsRow base e size v n xs):∃ a cap,v=.slice a n cap∧n<=cap∧cap<=9223372036854775807∧Row w base size (.slice a n n) xs:=by
 rcases h.2 with ⟨h0,hn⟩|⟨g,cap,cur,h1,h2,h3,h4,h5,h6,h7⟩
 . subst hn;exact⟨none,0,h0,by omega,by omega,none,0,0,rfl,h.1,by omega,by unfold maxLen;omega,.inl rfl⟩
 . have hm:=h5
   unfold maxLen at hm;refine⟨some ⟨g,0,none⟩,cap,h1,h4,hm,some ⟨g,0,none⟩,n,n,rfl,h.1,by omega,by omega,.inr ⟨g,0,rfl,h2,(Array.getElem?_eq_some_iff.1 h3).1,fun j hj=>?_⟩⟩;subst h1;rw[Nat.zero_add];exact h.cellAt j hj
theorem iw (w:World) (cs:List Value) (T:TypeId) (g:Nat) (hg:g=w.heap.size) (j:Nat) (u:Value) (h:cs[j]? =some u):(w.alloc (.cells cs.toArray T)).cell? ((⟨g,0,none⟩:Addr).add j)=some u:=by
 subst hg;have e:(⟨w.heap.size,0,none⟩:Addr).add j=⟨w.heap.size,j,none⟩:=by simp[Addr.add];exact fun h=>h.symm
 rw[e,World.cell?_alloc_at _ _ _ _ rfl]
 simpa using h
theorem nN {w Y w2:World} {base:Nat} {e:TypeId} {size:Nat} {v:Value} {n:Nat} {xs:List Value} (h:Y.ownsRow base e size v n xs) (hb:Below base w Y) (hs:base<=Y.heap.size) (hg:Y.grownBy w2 v.ownBlock):Below base w w2:=
 hb.grown hg hs (fun k Z=>(h.lt k Z).1)
theorem ni {w Y w2:World} (h:Below w.heap.size w Y) (k:Below Y.heap.size Y w2):Below w.heap.size w w2:=h.trans (k.mono h.size)
theorem wm {P:Program} {w:World} (base:Nat) (t ty e:TypeId) (i:TypeInfo) (size:Nat) (ht:P.underlying t=some (.slice e)) (hi:P.info? e=some i)
 (v:Value) (n c:Nat) (xs:List Value) (aU:w.ownsRow base e size v n xs):
 (Builtin.append_ #[t,t] ty #[v,.slice none 0 c]).run P w=.ok v w:=by
 rcases aU.2 with ⟨rfl,rfl⟩|⟨g,cap,cur,rfl,_,_,hnc,_⟩
 . simp[Builtin.append_,run_underlying ht,sizeOf,typeInfo,hi,Builtin.lenOf,Builtin.firstCells]
 . simp[Builtin.append_,run_underlying ht,sizeOf,typeInfo,hi,Builtin.lenOf,Builtin.firstCells,hnc,storeCells]
theorem sZ {P:Program} {ops:Array Oper} {rest:List Oper} {o:Oper} {a:Act} {Q:Exit->Act->World->Prop} (w:World) (hgd:o.guard=none) (s x:Operand) (t:TypeId)
 (ho:o.op=.call {callee:=.builtin .append,args:=#[s,x],argTypes:=#[t,t]})
 (base:Nat) (e:TypeId) (i:TypeInfo) (z:Value) (size bytes:Nat) (ht:P.underlying t=some (.slice e)) (hi:P.info? e=some i) (hz:i.zero=some z)
 (hsize:i.size=size) (hby:i.bytes=bytes) (hzs:z.cells.size=size) (hsz:0<size)
 (v:Value) (n:Nat) (xs:List Value) (hs:a.eval s=v) (aU:w.ownsRow base e size v n xs)
 (bx:Nat) (xv:Value) (news:List Value) (hx:a.eval x=xv) (hr:Row w bx size xv news) (m:Nat) (hl:news.length=m*size) (h1:∀ u∈news,u.oneCell'=true)
 (h63:n+m<=maxLen) (hbytes:(n+m)*bytes<=140737488355328) (hbase:base<=w.heap.size)
 (h:∀ v' E,E.ownsRow base e size v' (n+m) (xs++news)->w.grownBy E v.ownBlock->wpList P ops Q rest (a.put o.dst v') E):wpList P ops Q (o::rest) a w:=by
 obtain⟨ao,m',c,rfl,hm',hmc,hcm,hcell⟩:=hr;obtain rfl:m=m':=by
  rw[hl] at hm';exact Nat.eq_of_mul_eq_mul_right hsz hm'
 cases ao with
 |none=>
  have hm0:m=0:=by
   rcases hcell with h0|⟨g,off,h0,_⟩
   . exact h0
   . cases h0
  subst hm0;obtain rfl:news=[]:=List.eq_nil_of_length_eq_zero (by simpa using hl);refine wpList_plain hgd fun K hK=>?_
  have aX:=wm (P:=P) (w:=w) base t o.type e i size ht hi v n c xs aU;unfold Oper.wp;simp[execOp,ho,resolve,invoke,builtin,hs,hx,aX,Result.andThen];exact hK _ _ (h v w (by simpa using aU) ⟨rfl,rfl,rfl,zr _,fun _ _ _=>rfl⟩)
 |some ad=>
  have hnews:∀ j u,news[j]? =some u->w.cell? (ad.add j)=some u:=by
   intro j u hj;have hjl:j<news.length:=(List.getElem?_eq_some_iff.1 hj).1
   rcases hcell with h0|⟨g,off,h0,_,_,hc⟩
   . subst h0;omega
   . simp only[Option.some.injEq] at h0
     subst h0;have e1:(⟨g,off,none⟩:Addr).add j=⟨g,off+j,none⟩:=by
      unfold Addr.add;split
      . rename_i h;subst h;rfl
      . rfl
     rw[e1,hc j (by omega)];exact hj
  exact wpList_append_own w hgd s x t ho base e i z size bytes ht hi hz hsize hby hzs hsz v n xs hs aU ad m c news hx hl hnews h1 h63 hbytes hbase fun v' E h2 h3 _=>h v' E h2 h3
theorem tu {P:Program} (w:World) (base:Nat) (t ty e:TypeId) (i:TypeInfo) (z:Value) (size bytes:Nat) (ht:P.underlying t=some (.slice e)) (hi:P.info? e=some i) (hz:i.zero=some z)
 (hsize:i.size=size) (hby:i.bytes=bytes) (hzs:z.cells.size=size) (hsz:0<size)
 (v:Value) (n:Nat) (xs:List Value) (aU:w.ownsRow base e size v n xs)
 (a:Addr) (m c:Nat) (hm:0<m) (news:List Value) (hl:news.length=m*size) (hnews:∀ j u,news[j]? =some u->w.cell? (a.add j)=some u) (h1:∀ u∈news,u.oneCell'=true)
 (h63:n+m<=maxLen) (hbytes:(n+m)*bytes<=140737488355328) (v':Value) (E:World)
 (hr':(Builtin.append_ #[t,t] ty #[v,.slice (some a) m c]).run P w=.ok v' E):
 v'.ownBlock=v.ownBlock∨∀ g,v'.ownBlock=some g->w.heap.size<=g:=by
 subst hsize;subst hby;have hsmall:n+m<=9223372036854775807:=by simp only[maxLen] at h63;omega
 rcases aU.2 with ⟨rfl,rfl⟩|⟨g,cap,cur,rfl,hbg,hg,hnc,hcm,hcs,htake⟩
 . have hr:=run_append_nil (P:=P) w t ty e i z ht hi hz a m c news hl hnews (by omega) (by omega) (by have hb:=hbytes;simp only[Nat.zero_add] at hb;omega)
   rw[hr] at hr';injection hr' with e1 e2
   subst e1;right;intro g hg;simp only[Value.ownBlock,Option.some.injEq] at hg;omega
 . by_cases hroom:n+m<=cap
   . have hfit:n*i.size+news.length<=cur.size:=by rw[hl,hcs,<-Nat.add_mul];exact Nat.mul_le_mul_right _ hroom
     have hr:=run_append_room (P:=P) w t ty e i ht hi g n cap cur hg a m c news hl hnews h1 hroom hfit;rw[hr] at hr';injection hr' with e1 e2
     subst e1;left;rfl
   . have holds:∀ j u,xs[j]? =some u->w.cell? ((⟨g,0,none⟩:Addr).add j)=some u:=aU.cells (g:=g) rfl
     have hr:=run_append_grow (P:=P) w t ty e i z ht hi hz ⟨g,0,none⟩ n cap xs aU.1 holds a m c news hl hnews (by omega) (by omega) (growslice_fits (by omega) hbytes);rw[hr] at hr';injection hr' with e1 e2
     subst e1;right;intro g hg;simp only[Value.ownBlock,Option.some.injEq] at hg;omega
theorem eu {P:Program} {ops:Array Oper} {rest:List Oper} {o:Oper} {a:Act} {Q:Exit->Act->World->Prop} (w:World) (hgd:o.guard=none) (s x:Operand) (t:TypeId)
 (ho:o.op=.call {callee:=.builtin .append,args:=#[s,x],argTypes:=#[t,t]})
 (base:Nat) (e:TypeId) (i:TypeInfo) (z:Value) (size bytes:Nat) (ht:P.underlying t=some (.slice e)) (hi:P.info? e=some i) (hz:i.zero=some z)
 (hsize:i.size=size) (hby:i.bytes=bytes) (hzs:z.cells.size=size) (hsz:0<size)
 (v:Value) (n:Nat) (xs:List Value) (hs:a.eval s=v) (aU:w.ownsRow base e size v n xs)
 (ad:Addr) (m c:Nat) (hm:0<m) (news:List Value) (hx:a.eval x=.slice (some ad) m c) (hl:news.length=m*size) (hnews:∀ j u,news[j]? =some u->w.cell? (ad.add j)=some u) (h1:∀ u∈news,u.oneCell'=true)
 (h63:n+m<=maxLen) (hbytes:(n+m)*bytes<=140737488355328) (hbase:base<=w.heap.size)
 (h:∀ v' E,E.ownsRow base e size v' (n+m) (xs++news)->w.grownBy E v.ownBlock->(v'.ownBlock=v.ownBlock∨∀ g,v'.ownBlock=some g->w.heap.size<=g)->wpList P ops Q rest (a.put o.dst v') E):
 wpList P ops Q (o::rest) a w:=by
 refine wpList_plain hgd fun _ hK=>?_
 obtain⟨v',E,hr,h2,h3,_⟩:=run_append_own (P:=P) w base t o.type e i z size bytes ht hi hz hsize hby hzs hsz v n xs aU ad m c news hl hnews h1 h63 hbytes hbase;have h4:=tu (P:=P) w base t o.type e i z size bytes ht hi hz hsize hby hzs hsz v n xs aU ad m c hm news hl hnews h1 h63 hbytes v' E hr;unfold Oper.wp execOp;simp only[ho,resolve,invoke,builtin,Sem.run_bind,Sem.run_pure,Result.andThen_ok,List.map_toArray,List.map_cons,List.map_nil,hs,hx,hr];exact hK _ _ (h v' E h2 h3 h4)
theorem mP {P:Program} (w:World) {o:Oper} {a:Act} {K:Act->World->Prop} {Q:Exit->Act->World->Prop} (s x:Operand) (t:TypeId)
 (ho:o.op=.call {callee:=.builtin .append,args:=#[s,x],argTypes:=#[t,t]})
 (base:Nat) (e:TypeId) (i:TypeInfo) (z:Value) (size bytes:Nat) (ht:P.underlying t=some (.slice e)) (hi:P.info? e=some i) (hz:i.zero=some z)
 (hsize:i.size=size) (hby:i.bytes=bytes) (hzs:z.cells.size=size) (hsz:0<size)
 (v:Value) (n:Nat) (xs:List Value) (hs:a.eval s=v) (aU:w.ownsRow base e size v n xs)
 (ad:Addr) (m c:Nat) (hm:0<m) (news:List Value) (hx:a.eval x=.slice (some ad) m c) (hl:news.length=m*size) (hnews:∀ j u,news[j]? =some u->w.cell? (ad.add j)=some u) (h1:∀ u∈news,u.oneCell'=true)
 (h63:n+m<=maxLen) (hbytes:(n+m)*bytes<=140737488355328) (hbase:base<=w.heap.size)
 (h:∀ v' E,E.ownsRow base e size v' (n+m) (xs++news)->w.grownBy E v.ownBlock->(v'.ownBlock=v.ownBlock∨∀ g,v'.ownBlock=some g->w.heap.size<=g)->K (a.put o.dst v') E):o.wp P a w K Q:=by
 obtain⟨v',E,hr,h2,h3,_⟩:=run_append_own (P:=P) w base t o.type e i z size bytes ht hi hz hsize hby hzs hsz v n xs aU ad m c news hl hnews h1 h63 hbytes hbase;have h4:=tu (P:=P) w base t o.type e i z size bytes ht hi hz hsize hby hzs hsz v n xs aU ad m c hm news hl hnews h1 h63 hbytes v' E hr;unfold Oper.wp execOp;simp only[ho,resolve,invoke,builtin,Sem.run_bind,Sem.run_pure,Result.andThen_ok,List.map_toArray,List.map_cons,List.map_nil,hs,hx,hr];exact h v' E h2 h3 h4
end Go.Proofs.YthicolbbmjfkfaaGreat.Ow
