import Derived.Test.YtpkenfnmkpmapaaGreatQh19
import Derived.Test.YtpkenfnmkpmapaaGreatQh20
namespace Go.Proofs.YtpkenfnmkpmapaaGreat.Em
open Go.ChangeShapes Go.WideShapes Go.ChangeAt Go.RowKit En
set_option linter.unusedVariables false
set_option linter.unusedSimpArgs false
set_option maxRecDepth 100000
set_option maxHeartbeats 1600000
theorem Grow.toBelow {L':Lab} {w w':World} (g:Grow (fun _=>none) w L' w'):Below w.heap.size w w':=⟨g.os,g.tape,g.output,g.size,fun b hb=>g.block b hb rfl⟩
def toldOf (x:Option (St×List Res×Nat)):Option (List (Nat×Nat×Nat)×Nat):=x.map fun y=>(y.2.1.map fun r=>(r.e,r.value,r.over),y.2.2)
theorem awakeRun:toldOf (runWhole 1000 (new 8 100) 0 3 [⟨2,5,0,7⟩])=some ([(0,0,0),(0,0,3)],0):=by decide +kernel
theorem told_some {x:Option (St×List Res×Nat)} {l:List (Nat×Nat×Nat)} {e:Nat} (h:toldOf x=some (l,e)):∃ σ' rs,x=some (σ',rs,e)∧rs.map (fun r=>(r.e,r.value,r.over))=l:=by
 cases x with
 |none=>cases h
 |some y=>obtain⟨σ',rs,e'⟩:=y;simp only[toldOf,Option.map_some,Option.some.injEq,Prod.mk.injEq] at h;exact⟨σ',rs,by rw[h.2],h.1⟩
theorem frow_block {L:Lab} {w:World} {b n size:Nat} {xs:List Value} {T:TypeId} (h:Fix L w b (.cells xs.toArray T)) (hl:xs.length=n*size) (hn:n≤1000000):FRow L w size (.slice (some ⟨b,0,none⟩) n n) xs:=by
 refine⟨_,n,n,rfl,hl,Nat.le_refl _,by unfold maxLen;omega,.inr ⟨b,0,rfl,h.1,lt_of h.2,fun j hj=>?_⟩⟩;rw[Nat.zero_add];have hj':j<xs.length:=by omega
 rw[List.getElem?_eq_getElem hj'];exact h.cell j (by simp[hj'])
theorem two_told {L:Lab} {w:World} {vo:Value} {cs:List Value} {rs:List Res} {a0 a1 a2 b0 b1 b2:Nat} (h1:TRow L w 5 vo cs) (h2:ResRow L w rs cs) (h3:rs.map (fun r=>(r.e,r.value,r.over))=[(a0,a1,a2),(b0,b1,b2)]):
 ∃ b off cap,vo=.slice (some ⟨b,off,none⟩) 2 cap∧w.cell? ⟨b,off,none⟩=some (zi (a0:Int))∧w.cell? ⟨b,off+5+3,none⟩=some (zi (b2:Int)):=by
 match rs,h2,h3 with
 |[r0,r1],h2,h3=>
  simp only[List.map_cons,List.map_nil,List.cons.injEq,Prod.mk.injEq,and_true] at h3;obtain⟨⟨rfl,rfl,rfl⟩,rfl,rfl,rfl⟩:=h3;obtain⟨v0,c0,rfl,_,v1,c1,rfl,_,rfl⟩:=h2;obtain⟨⟨a,n,cap,rfl,hl,_,_,h5⟩,_⟩:=h1;have hn:n=2:=by simp at hl;omega
  subst hn
  rcases h5 with h5|⟨b,off,rfl,_,_,hc⟩
  · omega
  · refine⟨b,off,cap,rfl,?_,?_⟩
    · exact hc 0 (by omega)
    · exact hc 8 (by omega)
theorem awake24 (w:World):Calls Tryz.prog 23 #[] w fun e w'=>e=.returned (.bool true)∧Below w.heap.size w w':=by
 have hN:=engineNew 8 100 (by omega) (by omega) (by omega) (by omega) w;rw[show ((8:Nat):Int)=8 from rfl,show ((100:Nat):Int)=100 from rfl] at hN;have HN:=zH hN;obtain⟨σ',rs,hrun,hrs⟩:=told_some awakeRun;have hW:∀ A w1,Live A (new 8 100) w1→Calls Tryz.prog 22 #[.pointer (some ⟨A.be,0,none⟩),zi 0,zi 3,.slice (some ⟨w1.heap.size,0,none⟩) 1 1] (w1.alloc (.cells #[zi 2,zi 5,zi 0,zi 7] 29)) (Wholed A (w1.alloc (.cells #[zi 2,zi 5,zi 0,zi 7] 29)) σ' rs 0):=fun A w1 hL=>
  whole_any (hL.alloc _) 0 (by omega) 3 [⟨2,5,0,7⟩] _ 1 1 (frow_block (xs:=[zi 2,zi 5,zi 0,zi 7]) (fix_next hL.rep.mem.fresh _ rfl) rfl (by omega)) (by omega) 1000 (by omega) σ' rs 0 hrun
 have HW:=zH hW;have HB:Hid (∀ w,Calls Tryz.prog 33 #[zi 1,zi 2] w fun e w'=>e=.returned (zi 264000)∧w=w'):=by
  intro w;have h:=bound_any 1 2 w;rw[show boundOf 1 2=264000 by decide +kernel] at h;exact h
 clear hN hW hrun;go_enter Tryz.func23,Tryz.ntmps23;go_wp2_with (first|(go_at_call 20;refine HN.out.mono ?_;rintro e w1 ⟨A,rfl,q1,q2⟩;have HW1:=zH (HW.out A w1 q1);have H1:=zH (zA q1 q2);clear q1 q2)|(go_at_call 22;refine HW1.out.mono ?_;rintro e w2 ⟨A2,vo,cs,rfl,p1,p2,p3,p4,p5⟩;obtain⟨rb,ro,rc,rfl,x0,x3⟩:=two_told p1 p2 hrs;have H2:=zH p4;clear p1 p2 p3 p4 p5)|(go_at_call 33;refine (HB.out _).mono ?_;rintro e w' ⟨rfl,rfl⟩));go_ret;exact⟨rfl,((H1.out.2.trans (Grow.alloc _ _ _)).trans H2.out).toBelow⟩
structure EAt (b:Nat) (w0:World) (σ:St) (w:World):Prop where
 ex:∃ A:Book,A.be=b∧Live A σ w∧Grow (fun _=>none) w0 A.L w
theorem EAt.toBelow {b:Nat} {w0 w:World} {σ:St} (h:EAt b w0 σ w):Below w0.heap.size w0 w:=let ⟨_,_,_,g⟩:=h.ex;g.toBelow
theorem new_at (n l:Nat) (h1:1≤n) (h2:n≤256) (h3:1≤l) (h4:l≤1099511627776) (w:World):
 Calls Tryz.prog 20 #[.agg #[zi (n:Int),zu (l:Int)]] w fun e w'=>∃ b,e=.returned (.tuple #[.pointer (some ⟨b,0,none⟩),zi 0])∧EAt b w (new n l) w':=by
 refine (engineNew n l h1 h2 h3 h4 w).mono ?_;rintro e w' ⟨A,rfl,hL,g⟩;exact⟨A.be,rfl,A,rfl,hL,g⟩
theorem resRow_get {L:Lab} {w:World}:∀ (rs:List Res) (cs:List Value),ResRow L w rs cs→cs.length=rs.length*5∧∀ k r,rs[k]? =some r→cs[5*k]? =some (zi (r.e:Int))∧cs[5*k+1]? =some (zi (r.value:Int))∧cs[5*k+3]? =some (zi (r.over:Int))∧cs[5*k+4]? =some (zi (r.reason:Int))
 |[],cs,h=>⟨by have e:cs=[]:=h;rw[e];rfl,fun k r hk=>by simp at hk⟩
 |r0::rs,cs,h=>by
  obtain⟨v,c,rfl,_,h2⟩:=h;obtain⟨e,ih⟩:=resRow_get rs c h2;refine⟨by simp[e];omega,fun k r hk=>?_⟩
  cases k with
  |zero=>
   obtain rfl:r0=r:=by simpa using hk
   exact⟨rfl,rfl,rfl,rfl⟩
  |succ k=>
   have:=ih k r (by simpa using hk);rw[show 5*(k+1)=5*k+5 by omega];exact this
inductive Kept where
 |obj (k:Nat) (o:Obj)
 |row (size:Nat) (v:Value) (xs:List Value)
 |far (k:Nat) (o:Obj)
 |floor (n:Nat)
def Kept.holds (L:Lab) (w:World):Kept→Prop
 |.obj k o=>Fix L w k o
 |.row size v xs=>FRow L w size v xs
 |.far k o=>L k=some .tmp∧w.heap[k]? =some o
 |.floor n=>n≤w.heap.size
theorem Kept.grow {L L':Lab} {w w':World} (g:Grow L w L' w'):∀ {k:Kept},k.holds L w→k.holds L' w'
 |.obj _ _,h=>Fix.grow h g
 |.row _ _ _,h=>FRow.grow h g
 |.far _ _,h=>⟨(g.lab _ (lt_of h.2)).trans h.1,(g.keep _ (lt_of h.2) h.1).trans h.2⟩
 |.floor _,h=>Nat.le_trans h g.size
def Kepts (L:Lab) (w:World):List Kept→Prop
 |[]=>True
 |k::ks=>k.holds L w∧Kepts L w ks
theorem Kepts.grow {L L':Lab} {w w':World} (g:Grow L w L' w'):∀ {ks:List Kept},Kepts L w ks→Kepts L' w' ks
 |[],_=>trivial
 |_::_,⟨h,t⟩=>⟨Kept.grow g h,Kepts.grow g t⟩
structure EKt (b:Nat) (w0:World) (ks:List Kept) (σ:St) (w:World):Prop where
 ex:∃ A:Book,A.be=b∧Live A σ w∧Grow (fun _=>none) w0 A.L w∧Kepts A.L w ks
theorem EKt.at {b:Nat} {w0 w:World} {σ:St} {ks:List Kept} (h:EKt b w0 ks σ w):EAt b w0 σ w:=let ⟨A,e,l,g,_⟩:=h.ex;⟨A,e,l,g⟩
theorem EKt.toBelow {b:Nat} {w0 w:World} {σ:St} {ks:List Kept} (h:EKt b w0 ks σ w):Below w0.heap.size w0 w:=h.at.toBelow
theorem EKt.tail {b:Nat} {w0 w:World} {σ:St} {k:Kept} {ks:List Kept} (h:EKt b w0 (k::ks) σ w):EKt b w0 ks σ w:=let ⟨A,e,l,g,_,t⟩:=h.ex;⟨A,e,l,g,t⟩
theorem EKt.below {b:Nat} {w0 w w':World} {σ:St} {ks:List Kept} (h:EKt b w0 ks σ w) (hb:Below w.heap.size w w'):EKt b w0 ks σ w':=
 let ⟨A,e,l,g,t⟩:=h.ex
 ⟨A,e,l.below hb,g.trans (Grow.below hb),Kepts.grow (Grow.below hb) t⟩
theorem EKt.own {b:Nat} {w0 w w':World} {σ:St} {ks:List Kept} {T:TypeId} {size n:Nat} {v:Value} {xs:List Value} (h:EKt b w0 ks σ w) (hb:Below w.heap.size w w') (ho:w'.ownsRow w.heap.size T size v n xs):EKt b w0 (.row size v xs::ks) σ w':=by
 obtain⟨A,e,l,g,t⟩:=h.ex;refine⟨A,e,l.below hb,g.trans (Grow.below hb),?_,Kepts.grow (Grow.below hb) t⟩;obtain⟨a,c,rfl,h1,h2,h3⟩:=Ow.own_form ho;obtain⟨a',n',c',e0,k1,k2,k3,k4⟩:=h3;simp only[Value.slice.injEq] at e0;obtain⟨rfl,rfl,rfl⟩:=e0;refine⟨a,n,c,rfl,k1,h1,by unfold maxLen;omega,?_⟩
 rcases k4 with k4|⟨g',off,e1,e2,e3,e4⟩
 · exact .inl k4
 · exact .inr ⟨g',off,e1,l.rep.mem.fresh g' e2,e3,e4⟩
theorem live_kt {b:Nat} {w0 w:World} {ks:List Kept} {σ:St} (h:EKt b w0 ks σ w):
 Calls Tryz.prog 19 #[.pointer (some ⟨b,0,none⟩)] w (fun e w'=>∃ av cap,e=.returned (.slice av σ.live.length cap)∧EKt b w0 ks σ w'):=by
 obtain⟨A,rfl,hL,g,t⟩:=h.ex;refine (liveRow_any hL.rep).mono ?_;rintro e w' ⟨av,cap,rfl,_,hb⟩;exact⟨av,cap,rfl,EKt.below ⟨A,rfl,hL,g,t⟩ hb⟩
def WKt (b:Nat) (w0:World) (ks:List Kept) (σ':St) (rs:List Res) (err:Nat):Ending→World→Prop:=fun e w'=>
 ∃ rb ro rc,e=.returned (.tuple #[.slice (some ⟨rb,ro,none⟩) rs.length rc,zi (err:Int)])∧EKt b w0 ks σ' w'∧∀ k r,rs[k]? =some r→
  w'.cell? ⟨rb,ro+5*k,none⟩=some (zi (r.e:Int))∧w'.cell? ⟨rb,ro+5*k+1,none⟩=some (zi (r.value:Int))∧w'.cell? ⟨rb,ro+5*k+3,none⟩=some (zi (r.over:Int))∧w'.cell? ⟨rb,ro+5*k+4,none⟩=some (zi (r.reason:Int))
end Go.Proofs.YtpkenfnmkpmapaaGreat.Em
