import Derived.Test.YthicolbbmjfkfaaGreatQh19
import Derived.Lib.AppendZerosOnto
set_option linter.unusedVariables false
set_option linter.unusedSimpArgs false
set_option maxRecDepth 100000
set_option maxHeartbeats 1600000
namespace Go.Proofs.YthicolbbmjfkfaaGreat.Em
open Go.ChangeShapes Go.WideShapes Go.ChangeAt Go.RowKit En
theorem GZ:(Tryz.prog.info? 27).map (fun i=>(i.zero,i.size,i.bytes))=some (some (.agg #[I 0,I 0,I 0,I 0]),4,32):=by kernel_rfl
theorem G5 (n:Nat) (h0:0<n) (hn:n<=1000001) (w:World):zk 79 #[.slice none 0 0,I n] w fun e G=>∃ v,e=.returned v∧G.ownsRow w.heap.size 27 4 v 0 []∧Below w.heap.size w G:=by
 obtain⟨ii,hii,hz0,hz1,hz2⟩:=info_parts GZ;have hrz:∀ ty,(Builtin.append_ #[22,3] ty #[.slice none 0 0,I n]).run Tryz.prog w=
  .ok (.slice (some (J w.heap.size 0)) n (grownCap w n 0 27)) (w.drew.alloc (.cells (#[]++Builtin.zeroCells (Value.agg #[I 0,I 0,I 0,I 0]).cells n++Builtin.zeroCells (Value.agg #[I 0,I 0,I 0,I 0]).cells (grownCap w n 0 27 - n)) 27)):=fun ty=>by
  have h:=Lib.run_append_grow_zeros w 22 3 ty 27 ii _ .i64 .i64 Tryz.underlying22 Tryz.underlying3 hii hz0 none 0 0 [] (by rw[hz1];exact run_firstCells_none w.drew 4 0 0 0) n h0 (by rw[hz1];decide) (by omega) (by omega) (by rw[hz2];omega) (by rw[hz2];exact growslice_fits (by omega) (by omega))
  simpa using h
 have hGn:n<=grownCap w n 0 27:=grownCap_ge w _ _ _;have hG63:grownCap w n 0 27<=maxLen:=grownCap_le_maxLen w n 0 27 (by unfold maxLen;omega);generalize grownCap w n 0 27=ae at*;have UY:ae<=9223372036854775807:=hG63;have n0:¬ ((n:Int)<0):=by omega
 have n1:(0:Int)<(n:Int):=by omega
 have n2:((0:Int)<(n:Int))=True:=by simpa using h0
 have HH:=U (zA hGn hG63);clear hii hz1 hz2;go_enter Tryz.func79,Tryz.ntmps79;go_wp2_with (at_builtin;refine Lib.wpList_append_run _ rfl _ _ _ _ rfl _ _ rfl rfl _ _ (hrz _) ?_);go_ret;refine⟨_,rfl,⟨by simp,.inr ⟨w.heap.size,ae,_,rfl,zr _,heap_alloc_new _ _,zz _,HH.out.2,?_,by simp⟩⟩,?_⟩
 . have:=HH.out.1
   simp[size_zeroCells,Value.cells];omega
 . exact ((Below.refl _ w).drew).alloc (zr _) _
theorem CO {w:World} (g:Nat) (a1 a2:Option Addr) (n1 c1 c2:Nat) (Ki MK:List Value) (hg:g<w.heap.size) (x0:w.cell? (J g 0)=some (.slice a1 n1 c1)) (x1:w.cell? (J g 1)=some (.slice a2 1 c2)) (hr1:Ow.Row w 0 4 (.slice a1 n1 c1) Ki) (hr2:Ow.Row w 0 4 (.slice a2 1 c2) MK) (TC:∀ u∈Ki,u.oneCell'=true) (TD:∀ u∈MK,u.oneCell'=true) (hn:n1<=1000000):
 zk 38 #[.slice (some (J g 0)) 2 2] w fun e G=>∃ v,e=.returned v∧G.ownsRow w.heap.size 27 4 v (n1+1) (Ki++MK)∧Below w.heap.size w G:=by
 obtain⟨ii,hii,hz0,hz1,hz2⟩:=info_parts GZ;have l1:Ki.length=n1*4:=by obtain⟨_,_,_,e,h,_⟩:=hr1;simp only[Value.slice.injEq] at e;obtain⟨_,rfl,_⟩:=e;exact h
 have l2:MK.length=1*4:=by obtain⟨_,_,_,e,h,_⟩:=hr2;simp only[Value.slice.injEq] at e;obtain⟨_,rfl,_⟩:=e;exact h
 have nn:IntKind.i64.wrap ((n1:Int)+1)=(n1:Int)+1:=by rw[jH];omega
 have nw:wrap64 ((n1:Int)+1)=(n1:Int)+1:=by unfold wrap64;omega
 have VF:wrap64 (n1:Int)=(n1:Int):=by unfold wrap64;omega
 have n5:¬ ((n1:Int)<0):=by omega
 have n6:¬ ((n1:Int)+1<0):=by omega
 have n3:((n1:Int)<0)=False:=by simp
 have n4:((n1:Int)+1<0)=False:=by simp;omega
 have HG:=U (G5 (n1+1) (by omega) (by omega) w);have HX:Hid (∀ G,Below w.heap.size w G->G.cell? (J g 0)=some (.slice a1 n1 c1)∧G.cell? (J g 1)=some (.slice a2 1 c2)∧Ow.Row G 0 4 (.slice a1 n1 c1) Ki∧Ow.Row G 0 4 (.slice a2 1 c2) MK):=fun G Z=>⟨by rw[Z.cell (p:=(J g 0)) hg];exact x0,by rw[Z.cell (p:=(J g 1)) hg];exact x1,hr1.below Z,hr2.below Z⟩
 have HS:=U (zA TC (zA TD (zA l1 l2)));have HN:=U hn;clear hr1 hr2 TC TD l1 l2 hn;go_enter Tryz.func38,Tryz.ntmps38;go_wp2_with fail
 go_loopw [3,11] (fun z i wr=>∃ k:Nat,k<=2∧i=I k∧z=(if k=0 then I 0 else if k=1 then I n1 else I ((n1:Int)+1))∧w=wr) (fun _ i _=>2 - (intOf i).toNat)
 case atStart=>exact⟨0,by omega,rfl,rfl,rfl⟩
 case round=>
  obtain⟨k,V,rfl,rfl,rfl⟩:=hrel;obtain rfl|rfl|rfl:k=0∨k=1∨k=2:=by omega
  . go_wp2_with fail
    go_roundw
    case rel=>exact⟨1,by omega,rfl,by have:=HN.out;simp;unfold wrap64;omega,trivial⟩
    case measure=>decide
  . go_wp2_with fail
    go_roundw
    case rel=>exact⟨2,by omega,rfl,by simp[wrap64]<;>omega,trivial⟩
    case measure=>decide
  . go_wp2_with (go_at_call 79;refine HG.out.mono ?_;rintro e w2 ⟨v,rfl,q1,q2⟩)
    go_loopw [6,27] (fun z i wr=>∃ k:Nat,k<=2∧i=I k∧wr.ownsRow w.heap.size 27 4 z (if k=0 then 0 else if k=1 then n1 else n1+1) (if k=0 then [] else if k=1 then Ki else Ki++MK)∧Below w.heap.size w wr) (fun _ i _=>2 - (intOf i).toNat)
    case atStart=>exact⟨0,by omega,rfl,q1,q2⟩
    case round=>
     obtain⟨k,V,rfl,q1,q2⟩:=hrel;obtain⟨y0,y1,y2,y3⟩:=HX.out _ q2;obtain⟨av,cap,rfl,_⟩:=Ow.bD q1;have HQ:=U (zA y2 (zA y3 (zA q1 q2)));clear y2 y3 q1 q2;obtain rfl|rfl|rfl:k=0∨k=1∨k=2:=by omega
     . go_wp2_with (refine Ow.dK _ rfl (.tmp 31) (.tmp 32) 22 rfl w.heap.size 27 ii _ 4 32 Tryz.underlying22 hii hz0 hz1 hz2 rfl (by decide) (.slice av 0 cap) 0 [] rfl HQ.out.2.2.1 0 (.slice a1 n1 c1) Ki rfl HQ.out.1 n1 HS.out.2.2.1 HS.out.1 (by have:=HN.out;unfold maxLen;omega) (by have:=HN.out;omega) (HQ.out.2.2.2.size) ?_;intro v' w4 q1 q2)
       go_roundw
       case rel=>exact⟨1,by omega,rfl,by simpa using q1,Ow.nX HQ.out.2.2.1 HQ.out.2.2.2 HQ.out.2.2.2.size q2⟩
       case measure=>decide
     . go_wp2_with (refine Ow.dK _ rfl (.tmp 31) (.tmp 32) 22 rfl w.heap.size 27 ii _ 4 32 Tryz.underlying22 hii hz0 hz1 hz2 rfl (by decide) (.slice av n1 cap) n1 Ki rfl HQ.out.2.2.1 0 (.slice a2 1 c2) MK rfl HQ.out.2.1 1 HS.out.2.2.2 HS.out.2.1 (by have:=HN.out;unfold maxLen;omega) (by have:=HN.out;omega) (HQ.out.2.2.2.size) ?_;intro v' w4 q1 q2)
       go_roundw
       case rel=>exact⟨2,by omega,rfl,by simpa using q1,Ow.nX HQ.out.2.2.1 HQ.out.2.2.2 HQ.out.2.2.2.size q2⟩
       case measure=>decide
     . go_wp2_with fail
       go_ret;exact⟨_,rfl,HQ.out.2.2.1,HQ.out.2.2.2⟩
variable {A:au} {D:St} {w:World}
theorem AY (a:Option Addr) (n cap:Nat) (h1:n<=cap) (h2:cap<=9223372036854775807) (h3:a=none->cap=0) (w:World):zk 39 #[.slice a n cap] w fun e G=>e=.returned (.slice a n n)∧w=G:=by
 cases a with
 |none=>
  obtain rfl:=h3 rfl;obtain rfl:n=0:=by omega
  go_enter Tryz.func39,Tryz.ntmps39;go_wp2;go_ret;exact⟨rfl,rfl⟩
 |some a=>
  clear h3;obtain⟨ab,ao,asp⟩:=a;go_enter Tryz.func39,Tryz.ntmps39;go_wp2;go_ret;exact⟨rfl,rfl⟩
theorem uK {w:World} {base:Nat} {e:TypeId} {size:Nat} {a:Option Addr} {n cap:Nat} {xs:List Value} (h:w.ownsRow base e size (.slice a n cap) n xs) (ha:a=none):cap=0:=by
 rcases h.2 with ⟨h0,_⟩|⟨g,cap',cur,h0,_⟩
 . simp at h0;exact h0.2.2
 . simp only[Value.slice.injEq] at h0;rw[ha] at h0;cases h0.1
theorem dQ.at {L:cZ} {w:World} {size:Nat} {g n cap:Nat} {xs:List Value} (h:dQ L w size (.slice (some (J g 0)) n cap) xs) {j:Nat} {v:Value} (hj:xs[j]? =some v):w.cell? (J g j)=some v:=by
 obtain⟨a,n',cap',h1,h2,h3,h4,h5⟩:=h;have hlt:j<xs.length:=(List.getElem?_eq_some_iff.1 hj).1;simp only[Value.slice.injEq] at h1;obtain⟨rfl,rfl,rfl⟩:=h1
 rcases h5 with h5|⟨g',off,e1,e2,e3,e4⟩
 . subst h5;omega
 . simp only[Option.some.injEq,Addr.mk.injEq] at e1
   obtain⟨rfl,rfl,_⟩:=e1;have:=e4 j (by omega);rw[Nat.zero_add,hj] at this;exact this
def dG:List En.Op->List Value
 |[]=>[]
 |o::l=>I o.kind::I o.E::I o.hi::I o.value::dG l
theorem ng:∀ a b:List En.Op,dG (a++b)=dG a++dG b
 |[],_=>rfl
 |o::l,b=>by show _::_::_::_::dG (l++b)=_;rw[ng l b];rfl
theorem ni:∀ l:List En.Op,(dG l).length=l.length*4
 |[]=>rfl
 |o::l=>by show (dG l).length+1+1+1+1=_;rw[ni l,List.length_cons];omega
theorem xk:∀ l:List En.Op,∀ u∈dG l,u.oneCell'=true
 |[],_,h=>by cases h
 |o::l,u,h=>by
  simp only[dG,List.mem_cons] at h
  rcases h with rfl|rfl|rfl|rfl|h
  . rfl
  . rfl
  . rfl
  . rfl
  . exact xk l u h
theorem rD:∀ (l:List En.Op) (k:Nat) (o:En.Op),l[k]? =some o->(dG l)[k*4]? =zt o.kind∧(dG l)[k*4+1]? =zt o.E∧(dG l)[k*4+2]? =zt o.hi∧(dG l)[k*4+3]? =zt o.value
 |[],_,_,h=>by cases h
 |o'::l,0,o,h=>by
  obtain rfl:o'=o:=by simpa using h
  exact⟨rfl,rfl,rfl,rfl⟩
 |o'::l,k+1,o,h=>by
  have:=rD l k o (by simpa using h);rw[show (k+1)*4=k*4+1+1+1+1 by omega];exact this
def gy (zo:Nat):St->Nat->List En.Op->List ic->Option (St×List ic×Nat)
 |D,_,[],acc=>some (D,acc,0)
 |D,s,o::os,acc=>match gV D s o with
  |some aH=>match lC zo aH s with
   |some (az,r,err)=>if err≠0 then some (az,[],err) else if r.over≠0 then some (az,acc++[r],0) else gy zo az s os (acc++[r])
   |none=>none
  |none=>none
def runWhole (zo:Nat) (D:St) (s ak:Nat) (ops:List En.Op):Option (St×List ic×Nat):=
 match gG D s ak with
 |some (aH,_)=>gy zo aH s (ops++[⟨6,0,0,0⟩]) []
 |none=>none
def G6 (A:au) (w:World) (bE:St) (rs:List ic) (err:Nat):Ending->World->Prop:=fun e G=>∃ A' vo cs,e=.returned (.tuple #[vo,I err])∧Kc A'.L G 5 vo cs∧jg A'.L G rs cs∧Live A' bE G∧Grow A.L w A'.L G∧A'.Y=A.Y
theorem Po:(Tryz.prog.info? 46).map (fun i=>(i.zero,i.size,i.bytes))=some (some (.agg #[I 0,I 0,.slice none 0 0,I 0,I 0]),5,56):=by kernel_rfl
theorem dQ.row {L:cZ} {w:World} {size:Nat} {v:Value} {xs:List Value} (h:dQ L w size v xs):Ow.Row w 0 size v xs:=by
 obtain⟨a,n,cap,h1,h2,h3,h4,h5⟩:=h;refine⟨a,n,cap,h1,h2,h3,h4,?_⟩
 rcases h5 with h5|⟨g,off,e1,e2,e3,e4⟩
 . exact .inl h5
 . exact .inr ⟨g,off,e1,zz _,e3,e4⟩
theorem xm {L:cZ} {w:World} {base:Nat} {e:TypeId} {size:Nat} {a:Option Addr} {n cap:Nat} {xs:List Value} (h:w.ownsRow base e size (.slice a n cap) n xs) (ht:rC L (.slice a n cap)):Kc L w size (.slice a n n) xs:=by
 obtain⟨a',cap',e1,h1,h2,h3⟩:=Ow.bD h;simp only[Value.slice.injEq] at e1;obtain⟨rfl,_,rfl⟩:=e1;refine⟨?_,fun b Z=>ht b (by cases a with|none=>cases Z|some a=>exact Z)⟩;obtain⟨a0,n0,c0,e0,k1,k2,k3,k4⟩:=h3;refine⟨a0,n0,c0,e0,k1,k2,k3,?_⟩
 rcases k4 with k4|⟨g,off,e1,e2,e3,e4⟩
 . exact .inl k4
 . exact .inr ⟨g,off,e1,zz _,e3,e4⟩
def Kj (A:au) (w:World) (bE:St) (rs:List ic) (err:Nat):Ending->World->Prop:=fun e G=>∃ A' vo cs,e=.returned (.tuple #[vo,I err])∧Kc A'.L G 5 vo cs∧jg A'.L G rs cs∧Live A' bE G∧Grow A.L w A'.L G∧A'.Y=A.Y∧∀ b,vo.ownBlock=some b->w.heap.size<=b
theorem sj {w:World} {base:Nat} {e:TypeId} {size:Nat} {a:Option Addr} {n cap:Nat} {xs:List Value} (h:w.ownsRow base e size (.slice a n cap) n xs):∀ b,(Value.slice a n n).ownBlock=some b->base<=b:=
 fun b Z=>(h.lt b (by cases a with|none=>cases Z|some a=>exact Z)).1
theorem uL (hL:Live A D w) (s:Nat) (hs:s<8) (ak:Nat) (ops:List En.Op) (a:Option Addr) (n c:Nat) (hr:dQ A.L w 4 (.slice a n c) (dG ops)) (hn:n<=100000) (zo:Nat) (hF:zo<=13824000) (bE:St) (rs:List ic) (err:Nat) (aN:runWhole zo D s ak ops=some (bE,rs,err)):
 zk 8 #[R A.Y 0,I s,I ak,.slice a n c] w (Kj A w bE rs err):=by
 obtain⟨ii,hii,hz0,hz1,hz2⟩:=info_parts Po;unfold runWhole at aN
 split at aN
 . rename_i aH id hbe
   have hB:=AV hs hbe A w hL;obtain⟨all,hall⟩:∃ all,all=ops++[⟨6,0,0,0⟩]:=⟨_,rfl⟩
   have hlen:ops.length=n:=by
    obtain⟨_,_,_,e1,e2,_⟩:=hr;simp only[Value.slice.injEq] at e1;obtain⟨_,rfl,_⟩:=e1;rw[ni] at e2;omega
   have hal:all.length=n+1:=by rw[hall];simp[hlen]
   have hac:dG all=dG ops++[I 6,I 0,I 0,I 0]:=by rw[hall,ng];rfl
   rw[<-hall] at aN;have H2:Hid (∀ A1 H,Live A1 aH H->Grow A.L w A1.L H->zk 38 #[.slice (some ⟨H.heap.size+1,0,none⟩) 2 2] ((H.alloc (.cells #[I 6,I 0,I 0,I 0] 27)).alloc (.cells #[.slice a n c,.slice (some (J H.heap.size 0)) 1 1] 22)) (fun e G=>∃ g cap,e=.returned (.slice (some (J g 0)) (n+1) cap)∧cap<=maxLen∧n+1<=cap∧Live A1 aH G∧Grow A1.L H A1.L G∧dQ A1.L G 4 (.slice (some (J g 0)) (n+1) cap) (dG all))):=by
    intro A1 H q g1;obtain⟨r2,g2,f0,f1⟩:=kL q.rep #[I 6,I 0,I 0,I 0] 27 #[.slice a n c,.slice (some (J H.heap.size 0)) 1 1] 22;have RZ:Ow.Row ((H.alloc (.cells #[I 6,I 0,I 0,I 0] 27)).alloc (.cells #[.slice a n c,.slice (some (J H.heap.size 0)) 1 1] 22)) 0 4 (.slice (some (J H.heap.size 0)) 1 1) [I 6,I 0,I 0,I 0]:=by
     refine⟨_,1,1,rfl,rfl,zr _,by unfold maxLen;omega,.inr ⟨H.heap.size,0,rfl,zz _,by simp;omega,fun j hj=>?_⟩⟩;rw[Nat.zero_add];obtain rfl|rfl|rfl|rfl:j=0∨j=1∨j=2∨j=3:=by omega
     . exact f0.cell 0 rfl
     . exact f0.cell 1 rfl
     . exact f0.cell 2 rfl
     . exact f0.cell 3 rfl
    have hc:=CO (w:=((H.alloc (.cells #[I 6,I 0,I 0,I 0] 27)).alloc (.cells #[.slice a n c,.slice (some (J H.heap.size 0)) 1 1] 22))) (H.heap.size+1) a (some (J H.heap.size 0)) n c 1 (dG ops) [I 6,I 0,I 0,I 0] (by simp) (f1.cell 0 rfl) (f1.cell 1 rfl) ((hr.grow g1).grow g2).row RZ (xk ops) (by intro u hu;simp at hu;rcases hu with rfl|rfl<;>rfl) (by omega);refine hc.mono ?_;rintro e G ⟨v,rfl,q1,q2⟩;rw[<-hac] at q1;have hsz:H.heap.size<=(((H.alloc (.cells #[I 6,I 0,I 0,I 0] 27)).alloc (.cells #[.slice a n c,.slice (some (J H.heap.size 0)) 1 1] 22))).heap.size:=g2.size
    rcases q1.2 with ⟨_,h0⟩|⟨g,cap,cur,rfl,Z,hg,hnc,hcm,_⟩
    . omega
    . refine⟨g,cap,rfl,hcm,hnc,q.world (r2.below q2) (g2.trans (Grow.below q2)),g2.trans (Grow.below q2),some (J g 0),n+1,cap,rfl,q1.1,hnc,hcm,.inr ⟨g,0,rfl,q.rep.mem.fresh g (eP hsz Z),(q1.lt g rfl).2,fun j hj=>?_⟩⟩
      rw[Nat.zero_add];exact q1.cellAt j hj
   have HB:=U hB;have HR:=U (zA aN (zA hal (zA hs (zA hF hn))));have HN:=U hn;clear aN hbe hB hr hac hall hlen hL hn hal hs hF;go_enter Tryz.func8,Tryz.ntmps8;go_wp2_with (first|(go_at_call 9;refine HB.out.mono ?_;rintro e H ⟨A1,rfl,q1,q2,q3⟩;have HC:=U (H2.out A1 H q1 q2);have H1:=U (zA q2 q3);clear q1 q2 q3)|(go_at_call 38;refine HC.out.mono ?_;rintro e w3 ⟨g,cap,rfl,p0,p1,p2,p3,p4⟩;have HP:=U (zA p2 (zA (H1.out.1.trans p3) (zA p4 (zA p0 p1))));clear p2 p3 p4))
   go_loopw [12,33] (fun z i wr=>∃ (k:Nat) (R3:St) (A':au) (acc:List ic) (cs:List Value),k<=n+1∧i=I k∧acc.length=k∧gy zo R3 s (all.drop k) acc=some (bE,rs,err)∧Live A' R3 wr∧Grow A.L w A'.L wr∧A'.Y=A.Y∧dQ A'.L wr 4 (.slice (some (J g 0)) (n+1) cap) (dG all)∧wr.ownsRow w.heap.size 46 5 z acc.length cs∧jg A'.L wr acc cs∧rC A'.L z) (fun _ i _=>n+1 - (intOf i).toNat)
   case atStart=>
    obtain⟨p2,p3,p4,_⟩:=HP.out;exact⟨0,aH,A1,[],[],zz _,rfl,rfl,HR.out.1,p2,p3,H1.out.2,p4,⟨rfl,.inl ⟨rfl,rfl⟩⟩,rfl,fun b Z=>by cases Z⟩
   case round=>
    obtain⟨k,R3,A',acc,cs,V,rfl,hak,aN,hL,gr,eb,hfr,aS,hres,nP⟩:=hrel;rw[hak] at aS;obtain⟨av,cp,rfl,hc1,hc2,_⟩:=Ow.bD aS;obtain⟨_,hal,hs,hF,hn⟩:=HR.out
    by_cases hlt:k<n+1
    . have hk':k<all.length:=by omega
      obtain⟨o,ho⟩:∃ o,all[k]? =some o:=⟨_,zx hk'⟩
      have hd:all.drop k=o::all.drop (k+1):=by rw[List.drop_eq_getElem_cons hk',(List.getElem?_eq_some_iff.1 ho).2]
      rw[hd] at aN;unfold gy at aN;obtain⟨x0,x1,x2,x3⟩:=rD all k o ho;have X0:=hfr.at x0;have X1:=hfr.at x1;have X2:=hfr.at x2;have X3:=hfr.at x3;clear x0 x1 x2 x3 hd
      split at aN
      . rename_i FK hi
        split at aN
        . rename_i az r e2 hdo
          have hD:=GX (hL.alloc (.cells #[I o.kind,I o.E,I o.hi,I o.value] 27)) s hs o FK (AU hs hi) zo hF az r e2 hdo;rw[eb] at hD;have HD:=U hD
          have H5 : Hid (∀ A5 w5 va vn vc, dQ A5.L w5 2 (.slice va vn vc) (bI r.aB) -> Live A5 az w5 -> Grow A'.L (wr.alloc (.cells #[I (o.kind : Int), I (o.E : Int), I (o.hi : Int), I (o.value : Int)] 27)) A5.L w5 -> A5.Y = A'.Y ->
              Grow A.L w A5.L w5∧∀ w6 w7,w6=w5.alloc (.cells #[I r.e,I r.value,.slice va vn vc,I r.over,I r.ay] 46)->w7=w6.alloc (.cells #[I r.e,I r.value,.slice va vn vc,I r.over,I r.ay] 46)->Live A5 az w7∧Grow A.L w A5.L w7∧A5.Y=A.Y∧dQ A5.L w7 4 (.slice (some (J g 0)) (n+1) cap) (dG all)∧w7.ownsRow w.heap.size 46 5 (.slice av k cp) k cs∧jg A5.L w7 (acc++[r]) (cs++[I r.e,I r.value,.slice va vn vc,I r.over,I r.ay])∧rC A5.L (.slice av k cp)∧
                ∀ w8,w7.grownBy w8 (Value.slice av k cp).ownBlock->w8.cell? (J w5.heap.size 3)=zt r.over):=by
           intro A5 w5 va vn vc p1 p2 p3 p4;have ga:=(Grow.alloc A'.L wr (.cells #[I o.kind,I o.E,I o.hi,I o.value] 27)).trans p3;refine⟨gr.trans ga,?_⟩;rintro w6 w7 rfl rfl;have gb:=(Grow.alloc A5.L w5 (.cells #[I r.e,I r.value,.slice va vn vc,I r.over,I r.ay] 46)).trans (Grow.alloc A5.L _ (.cells #[I r.e,I r.value,.slice va vn vc,I r.over,I r.ay] 46));have gc:=ga.trans gb;have hbl:∀ b,(Value.slice av k cp).ownBlock=some b->b<wr.heap.size:=fun b Z=>(aS.lt b Z).2
           refine⟨(p2.alloc _).alloc _,gr.trans gc,p4.trans eb,hfr.grow gc,mi aS fun b Z=>gc.keep b (hbl b Z) (nP b Z),(hres.soft gc.soft).snoc r _ (p1.grow gb),fun b Z=>(gc.lab b (hbl b Z)).trans (nP b Z),?_⟩;intro w8 hg;rw[World.cell?_of_block (w:=(w5.alloc (.cells #[I r.e,I r.value,.slice va vn vc,I r.over,I r.ay] 46)).alloc (.cells #[I r.e,I r.value,.slice va vn vc,I r.over,I r.ay] 46)) (hg.block w5.heap.size (by simp;omega) (by intro hh;have h1:=hbl _ hh.symm;have h2:=ga.size;omega))];exact ((dO p2.rep.mem.fresh (.cells #[I r.e,I r.value,.slice va vn vc,I r.over,I r.ay] 46) rfl).grow (Grow.alloc A5.L _ _)).cell 3 rfl
          have HQ:=U (zA aN (zA hlt (zA hak (zA hk' (zA hn hs)))));have b1:(k:Int)<(n:Int)+1:=by omega
          have b0:(0:Int)<=(k:Int):=by omega
          have n1:IntKind.i64.wrap ((k:Int)+1)=(k:Int)+1:=by rw[jH];omega
          clear hD hdo hi aN hlt hak hk' hL gr eb hfr aS hres nP ho hal hF hn hs V;have HA:=U (zA hc1 hc2);clear hc1 hc2
          by_cases he:e2=0
          . subst he
            by_cases hv:r.over=0
            . have v1:((r.over:Int)==0)=true:=by simp;omega
              have v2:((r.over:Int) !=0)=false:=by simp;omega
              have v3:((r.over:Int)=0)=True:=by simp;omega
              have v4:(r.over=0)=True:=by simp;omega
              have HV:=U hv;clear hv;go_wp2_with (first|(go_at_call 11;refine HD.out.mono ?_;rintro e w5 ⟨A5,vp,rfl,p1,p2,p3,p4⟩;obtain⟨va,vn,vc,rfl⟩:=jU p1;have H6:=U (H5.out A5 w5 va vn vc p1 p2 p3 p4);have HZ:=U (H6.out.2 _ _ rfl rfl);have R4:=U (zA p2 p4);clear p1 p2 p3 p4)|(refine Ow.dH _ rfl (.tmp 47) (.tmp 49) 28 rfl w.heap.size 46 ii _ 5 56 Tryz.underlying28 hii hz0 hz1 hz2 rfl (by decide) (.slice av k cp) k cs rfl HZ.out.2.2.2.2.1 ⟨w5.heap.size+1,0,none⟩ 1 1 (by omega) [I r.e,I r.value,.slice va vn vc,I r.over,I r.ay] rfl rfl (fun j u hu=>Ow.iF (w5.alloc (.cells #[I r.e,I r.value,.slice va vn vc,I r.over,I r.ay] 46)) [I r.e,I r.value,.slice va vn vc,I r.over,I r.ay] _ (w5.heap.size+1) (by simp) j u hu) (by intro u hu;simp at hu;rcases hu with rfl|rfl|rfl|rfl|rfl<;>rfl) (by have:=HQ.out.2.1;have:=HQ.out.2.2.2.2.1;unfold maxLen;omega) (by have:=HQ.out.2.1;have:=HQ.out.2.2.2.2.1;omega) HZ.out.2.1.size ?_;intro v' w8 q1 q2 q3;have x3:=HZ.out.2.2.2.2.2.2.2 w8 q2;obtain⟨TE,TG,rfl,hc3,hc4,_⟩:=Ow.bD q1;have QA:=uK q1;have HY:=U (zA q1 (zA q2 q3));clear q1 q2 q3));obtain⟨aN,hlt,hak,hk',hn,hs⟩:=HQ.out;obtain⟨l1,l2,l3,l4,l5,l6,l7,_⟩:=HZ.out;obtain⟨q1,q2,q3⟩:=HY.out;obtain⟨L',hrow,ML⟩:=uJ l1 l7 q1 q2 q3;have gz:=l2.CL hrow (fun b Z=>(l5.lt b Z).1);rw[aX (by simp),aX (by simp[HV.out])] at aN;refine⟨⟨k+1,az,{A5 with L:=L'},acc++[r],_,by omega,rfl,by simp[hak],aN,l1.CL hrow,gz,l3,l4.soft hrow.soft,by rw[jF,hak];exact q1,l6.soft hrow.soft,ML⟩,?_⟩;show n+1 - ((k:Int)+1).toNat<n+1 - ((k:Int)).toNat;omega
            . have v1:((r.over:Int)==0)=false:=by simp;omega
              have v2:((r.over:Int) !=0)=true:=by simp;omega
              have v3:((r.over:Int)=0)=False:=by simp;omega
              have v4:(r.over=0)=False:=by simp;omega
              have HV:=U hv;clear hv;go_wp2_with (first|(go_at_call 11;refine HD.out.mono ?_;rintro e w5 ⟨A5,vp,rfl,p1,p2,p3,p4⟩;obtain⟨va,vn,vc,rfl⟩:=jU p1;have H6:=U (H5.out A5 w5 va vn vc p1 p2 p3 p4);have HZ:=U (H6.out.2 _ _ rfl rfl);have R4:=U (zA p2 p4);clear p1 p2 p3 p4)|(refine Ow.dH _ rfl (.tmp 47) (.tmp 49) 28 rfl w.heap.size 46 ii _ 5 56 Tryz.underlying28 hii hz0 hz1 hz2 rfl (by decide) (.slice av k cp) k cs rfl HZ.out.2.2.2.2.1 ⟨w5.heap.size+1,0,none⟩ 1 1 (by omega) [I r.e,I r.value,.slice va vn vc,I r.over,I r.ay] rfl rfl (fun j u hu=>Ow.iF (w5.alloc (.cells #[I r.e,I r.value,.slice va vn vc,I r.over,I r.ay] 46)) [I r.e,I r.value,.slice va vn vc,I r.over,I r.ay] _ (w5.heap.size+1) (by simp) j u hu) (by intro u hu;simp at hu;rcases hu with rfl|rfl|rfl|rfl|rfl<;>rfl) (by have:=HQ.out.2.1;have:=HQ.out.2.2.2.2.1;unfold maxLen;omega) (by have:=HQ.out.2.1;have:=HQ.out.2.2.2.2.1;omega) HZ.out.2.1.size ?_;intro v' w8 q1 q2 q3;have x3:=HZ.out.2.2.2.2.2.2.2 w8 q2;obtain⟨TE,TG,rfl,hc3,hc4,_⟩:=Ow.bD q1;have QA:=uK q1;have HY:=U (zA q1 (zA q2 q3));clear q1 q2 q3)|(go_at_call 39;refine (AY TE (k+1) TG hc3 hc4 QA _).mono ?_;rintro e w9 ⟨rfl,rfl⟩))
              go_ret2
              obtain⟨aN,hlt,hak,hk',hn,hs⟩:=HQ.out;obtain⟨l1,l2,l3,l4,l5,l6,l7,_⟩:=HZ.out;obtain⟨q1,q2,q3⟩:=HY.out;obtain⟨L',hrow,ML⟩:=uJ l1 l7 q1 q2 q3;have gz:=l2.CL hrow (fun b Z=>(l5.lt b Z).1);rw[aX (by simp),aV (by simp[HV.out])] at aN;simp only[Option.some.injEq,gZ] at aN;obtain⟨rfl,rfl,rfl⟩:=aN;exact⟨{A5 with L:=L'},_,_,rfl,xm q1 ML,l6.soft hrow.soft,l1.CL hrow,gz,l3,sj q1⟩
          . have HE:=U he
            have v1:((e2:Int)==0)=false:=by simp;omega
            have v2:((e2:Int) !=0)=true:=by simp;omega
            have v3:((e2:Int)=0)=False:=by simp;omega
            have v4:(e2=0)=False:=by simp;omega
            clear he;go_wp2_with (first|(go_at_call 11;refine HD.out.mono ?_;rintro e w5 ⟨A5,vp,rfl,p1,p2,p3,p4⟩;obtain⟨va,vn,vc,rfl⟩:=jU p1;have H6:=U (H5.out A5 w5 va vn vc p1 p2 p3 p4);have HZ:=U (H6.out.2 _ _ rfl rfl);have R4:=U (zA p2 p4);clear p1 p2 p3 p4))
            go_ret2
            obtain⟨aN,_⟩:=HQ.out;rw[aV HE.out] at aN;simp only[Option.some.injEq,gZ] at aN;obtain⟨rfl,rfl,rfl⟩:=aN;exact⟨_,_,[],rfl,⟨⟨none,0,0,rfl,rfl,zr _,by unfold maxLen;omega,.inl rfl⟩,fun b Z=>by cases Z⟩,rfl,R4.out.1.alloc _,H6.out.1.trans (Grow.alloc _ _ _),HZ.out.2.2.1,fun b Z=>by cases Z⟩
        . cases aN
      . cases aN
    . obtain rfl:k=n+1:=by omega
      rw[List.drop_of_length_le (by omega)] at aN;unfold gy at aN;simp only[Option.some.injEq,gZ] at aN;obtain⟨rfl,rfl,rfl⟩:=aN;have QA:=uK aS;have HQ:=U (zA aS (zA nP (zA hres (zA hL (zA gr eb)))));have b1:¬ (((n+1:Nat):Int)<(n:Int)+1):=by omega
      clear aS nP hres hL gr eb hfr hak hal hs hF hn hlt;go_wp2_with (first|(go_at_call 39;refine (AY av (n+1) cp hc1 hc2 QA _).mono ?_;rintro e w9 ⟨rfl,rfl⟩))
      go_ret2
      obtain⟨aS,nP,hres,hL,gr,eb⟩:=HQ.out;exact⟨A',_,cs,rfl,xm aS nP,hres,hL,gr,eb,sj aS⟩
 . cases aN
theorem EZ (hL:Live A D w) (s:Nat) (hs:s<8) (ak:Nat) (ops:List En.Op) (a:Option Addr) (n c:Nat) (hr:dQ A.L w 4 (.slice a n c) (dG ops)) (hn:n<=100000) (zo:Nat) (hF:zo<=13824000) (bE:St) (rs:List ic) (err:Nat) (aN:runWhole zo D s ak ops=some (bE,rs,err)):
 zk 8 #[R A.Y 0,I s,I ak,.slice a n c] w (G6 A w bE rs err):=
 (uL hL s hs ak ops a n c hr hn zo hF bE rs err aN).mono fun e G ⟨A',vo,cs,h1,h2,h3,h4,h5,h6,_⟩=>⟨A',vo,cs,h1,h2,h3,h4,h5,h6⟩
end Go.Proofs.YthicolbbmjfkfaaGreat.Em
