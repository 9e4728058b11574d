import Derived.Test.YtpkenfnmkpmapaaGreatQg21
import Derived.Test.YtpkenfnmkpmapaaGreatQg22
namespace Go.Proofs.YtpkenfnmkpmapaaGreat.Em
open Go.ChangeShapes Go.WideShapes Go.ChangeAt Go.RowKit En
set_option linter.unusedVariables false
set_option linter.unusedSimpArgs false
set_option maxRecDepth 100000
set_option maxHeartbeats 1600000
theorem Grow.toBelow {L':Lab} {w w':World} (g:Grow (fun _=>none) w L' w'):Below w.heap.size w w':=⟨g.os,g.tape,g.output,g.size,fun b hb=>g.block b hb rfl⟩
def toldOf (x:Option (St×List Res×Nat)):Option (List (Nat×Nat×Nat)×Nat):=x.map fun y=>(y.2.1.map fun r=>(r.e,r.value,r.over),y.2.2)
theorem awakeRun:toldOf (runWhole 1000 (new 8 100) 0 3 [⟨2,5,0,7⟩])=some ([(0,0,0),(0,0,3)],0):=by decide +kernel
theorem told_some {x:Option (St×List Res×Nat)} {l:List (Nat×Nat×Nat)} {e:Nat} (h:toldOf x=some (l,e)):∃ σ' rs,x=some (σ',rs,e)∧rs.map (fun r=>(r.e,r.value,r.over))=l:=by
 cases x with
 |none=>cases h
 |some y=>obtain⟨σ',rs,e'⟩:=y;simp only[toldOf,Option.map_some,Option.some.injEq,Prod.mk.injEq] at h;exact⟨σ',rs,by rw[h.2],h.1⟩
theorem frow_block {L:Lab} {w:World} {b n size:Nat} {xs:List Value} {T:TypeId} (h:Fix L w b (.cells xs.toArray T)) (hl:xs.length=n*size) (hn:n≤1000000):FRow L w size (.slice (some ⟨b,0,none⟩) n n) xs:=by
 refine⟨_,n,n,rfl,hl,Nat.le_refl _,by unfold maxLen;omega,.inr ⟨b,0,rfl,h.1,lt_of h.2,fun j hj=>?_⟩⟩;rw[Nat.zero_add];have hj':j<xs.length:=by omega
 rw[List.getElem?_eq_getElem hj'];exact h.cell j (by simp[hj'])
theorem two_told {L:Lab} {w:World} {vo:Value} {cs:List Value} {rs:List Res} {a0 a1 a2 b0 b1 b2:Nat} (h1:TRow L w 5 vo cs) (h2:ResRow L w rs cs) (h3:rs.map (fun r=>(r.e,r.value,r.over))=[(a0,a1,a2),(b0,b1,b2)]):
 ∃ b off cap,vo=.slice (some ⟨b,off,none⟩) 2 cap∧w.cell? ⟨b,off,none⟩=some (zi (a0:Int))∧w.cell? ⟨b,off+5+3,none⟩=some (zi (b2:Int)):=by
 match rs,h2,h3 with
 |[r0,r1],h2,h3=>
  simp only[List.map_cons,List.map_nil,List.cons.injEq,Prod.mk.injEq,and_true] at h3;obtain⟨⟨rfl,rfl,rfl⟩,rfl,rfl,rfl⟩:=h3;obtain⟨v0,c0,rfl,_,v1,c1,rfl,_,rfl⟩:=h2;obtain⟨⟨a,n,cap,rfl,hl,_,_,h5⟩,_⟩:=h1;have hn:n=2:=by simp at hl;omega
  subst hn
  rcases h5 with h5|⟨b,off,rfl,_,_,hc⟩
  · omega
  · refine⟨b,off,cap,rfl,?_,?_⟩
    · exact hc 0 (by omega)
    · exact hc 8 (by omega)
theorem awake24 (w:World):Calls Tryz.prog 23 #[] w fun e w'=>e=.returned (.bool true)∧Below w.heap.size w w':=by
 have hN:=engineNew 8 100 (by omega) (by omega) (by omega) (by omega) w;rw[show ((8:Nat):Int)=8 from rfl,show ((100:Nat):Int)=100 from rfl] at hN;have HN:=zH hN;obtain⟨σ',rs,hrun,hrs⟩:=told_some awakeRun;have hW:∀ A w1,Live A (new 8 100) w1→Calls Tryz.prog 22 #[.pointer (some ⟨A.be,0,none⟩),zi 0,zi 3,.slice (some ⟨w1.heap.size,0,none⟩) 1 1] (w1.alloc (.cells #[zi 2,zi 5,zi 0,zi 7] 29)) (Wholed A (w1.alloc (.cells #[zi 2,zi 5,zi 0,zi 7] 29)) σ' rs 0):=fun A w1 hL=>
  whole_any (hL.alloc _) 0 (by omega) 3 [⟨2,5,0,7⟩] _ 1 1 (frow_block (xs:=[zi 2,zi 5,zi 0,zi 7]) (fix_next hL.rep.mem.fresh _ rfl) rfl (by omega)) (by omega) 1000 (by omega) σ' rs 0 hrun
 have HW:=zH hW;have HB:Hid (∀ w,Calls Tryz.prog 33 #[zi 1,zi 2] w fun e w'=>e=.returned (zi 264000)∧w=w'):=by
  intro w;have h:=bound_any 1 2 w;rw[show boundOf 1 2=264000 by decide +kernel] at h;exact h
 clear hN hW hrun;go_enter Tryz.func23,Tryz.ntmps23;go_wp2_with (first|(go_at_call 20;refine HN.out.mono ?_;rintro e w1 ⟨A,rfl,q1,q2⟩;have HW1:=zH (HW.out A w1 q1);have H1:=zH (zA q1 q2);clear q1 q2)|(go_at_call 22;refine HW1.out.mono ?_;rintro e w2 ⟨A2,vo,cs,rfl,p1,p2,p3,p4,p5⟩;obtain⟨rb,ro,rc,rfl,x0,x3⟩:=two_told p1 p2 hrs;have H2:=zH p4;clear p1 p2 p3 p4 p5)|(go_at_call 33;refine (HB.out _).mono ?_;rintro e w' ⟨rfl,rfl⟩));go_ret;exact⟨rfl,((H1.out.2.trans (Grow.alloc _ _ _)).trans H2.out).toBelow⟩
theorem status_10 {A:Book} {σ:St} {w:World} (hL:Live A σ w) (s:Nat) (hs:s<8) (t:Txn) (ht:σ.txns.getD s none=some t) (he:0<t.end_) (hc:σ.calls.getD s none=none):
 Calls Tryz.prog 12 #[.pointer (some ⟨A.be,0,none⟩),zi (s:Int)] w fun e w'=>e=.returned (.agg #[.bool true,.bool false,.bool false,zi (t.id:Int),zi (t.level:Int),zi 2,zu (t.begin_:Int),zu (t.end_:Int),zi (t.ops:Int)])∧Below w.heap.size w w':=by
 have hR:=hL.rep;have b1:(s:Int)<8:=by omega
 have b0:(0:Int)≤(s:Int):=by omega
 have hsok:=zH (sessionOk s hs);have r1:=hR.alloc (.cells #[.bool false,.bool false,.bool false,zi 0,zi 0,zi 0,zu 0,zu 0,zi 0] 31);have H1:Hid (∀ w',Below (w.alloc (.cells #[.bool false,.bool false,.bool false,zi 0,zi 0,zi 0,zu 0,zu 0,zi 0] 31)).heap.size (w.alloc (.cells #[.bool false,.bool false,.bool false,zi 0,zi 0,zi 0,zu 0,zu 0,zi 0] 31)) w'→w'.cell? ⟨A.be,5+s,none⟩=some (.pointer (some ⟨A.bt s,0,none⟩))∧w'.cell? ⟨A.be,13+s,none⟩=some (.pointer none)∧w'.cell? ⟨A.bt s,0,none⟩=some (zi (t.id:Int))∧w'.cell? ⟨A.bt s,1,none⟩=some (zi (t.level:Int))∧w'.cell? ⟨A.bt s,3,none⟩=some (zu (t.begin_:Int))∧w'.cell? ⟨A.bt s,4,none⟩=some (zu (t.end_:Int))∧w'.cell? ⟨A.bt s,5,none⟩=some (zi (t.ops:Int))):=by
  intro w' hb;have r:=r1.below hb;have h5:=r.eng (5+s) (engCs_txn A σ hs);rw[show A.tp σ s=.pointer (some ⟨A.bt s,0,none⟩) by unfold Book.tp;rw[ht]] at h5;have h13:=r.eng (13+s) (engCs_call A σ hs);rw[hL.idle s hs hc] at h13;exact⟨h5,h13,r.txn ht 0 rfl,r.txn ht 1 rfl,r.txn ht 3 rfl,r.txn ht 4 rfl,r.txn ht 5 rfl⟩
 obtain⟨v5,v13,t0,t1,t3,t4,t5⟩:=H1.out _ (Below.refl _ _);obtain⟨fe1,fe2,fe3,fe4,fe5⟩:=zeF (x:=t.end_) (c:=0) (ci:=0) (by omega);have ff1:decide ((0:Int)<(t.end_:Int))=true:=by simp<;>omega
 have ff2:((0:Int)<(t.end_:Int))=True:=by simp<;>omega
 have ff3:(0<t.end_)=True:=by simp<;>omega
 have ff4:decide (0<t.end_)=true:=by simp<;>omega
 clear hL hR hs ht r1 he;go_enter Tryz.func12,Tryz.ntmps12;go_wp2_with (go_at_call 36;refine (hsok.out _).mono ?_;rintro e w' ⟨rfl,rfl⟩);have HZ0:Hid ((w.alloc (.cells #[.bool false,.bool false,.bool false,zi 0,zi 0,zi 0,zu 0,zu 0,zi 0] 31)).heap[w.heap.size]? =some (.cells #[.bool false,.bool false,.bool false,zi 0,zi 0,zi 0,zu 0,zu 0,zi 0] 31)∧Below w.heap.size w (w.alloc (.cells #[.bool false,.bool false,.bool false,zi 0,zi 0,zi 0,zu 0,zu 0,zi 0] 31))∧w.heap.size<(w.alloc (.cells #[.bool false,.bool false,.bool false,zi 0,zi 0,zi 0,zu 0,zu 0,zi 0] 31)).heap.size):=⟨heap_alloc_new w _,(Below.refl _ w).alloc (Nat.le_refl _) _,by simp⟩
 clear v5 v13 t0 t1 t3 t4 t5;generalize hw0:w.alloc _=w0 at*;obtain⟨v5,v13,t0,t1,t3,t4,t5⟩:=H1.out w0 (Below.refl _ _)
 go_quiet (fail)
 clear v5 v13 t0 t1 t3 t4 t5;generalize hw5:w0.drewN _=w5;have hb5:Below w0.heap.size w0 w5:=by rw[←hw5];exact⟨rfl,rfl,rfl,Nat.le_refl _,fun _ _=>rfl⟩
 obtain⟨v5,v13,t0,t1,t3,t4,t5⟩:=H1.out w5 hb5;obtain⟨_,_,y0,y1,y3,y4,y5⟩:=H1.out (w5.alloc (.cells #[.bool false,.bool false,.bool false,zi 0,zi 0,zi 0,zu 0,zu 0,zi 0] 31)) (hb5.alloc hb5.size _);go_wp2_with fail
 go_region
 generalize hw6:World.drew _=w6;have F6:Fix (fun _=>none) w6 w5.heap.size (.cells #[.bool true,.bool false,.bool false,zi (t.id:Int),zi (t.level:Int),zi 1,zu (t.begin_:Int),zu (t.end_:Int),zi (t.ops:Int)] 31):=⟨rfl,by rw[←hw6];exact heap_alloc_new w5 _⟩
 have hb6:Below w0.heap.size w0 w6:=by rw[←hw6];exact (hb5.alloc hb5.size _).drew
 have hz6:w5.heap.size<w6.heap.size:=lt_of F6.2;have HB6:=zH (zA hb6 (zA F6 hb5.size));obtain⟨_,_,_,_,_,u4,_⟩:=H1.out w6 hb6;clear v5 v13 t0 t1 t3 t4 t5 y0 y1 y3 y4 y5;have s0:=F6.cell 0 (v:=.bool true) rfl;have s1:=F6.cell 1 (v:=.bool false) rfl;have s2:=F6.cell 2 (v:=.bool false) rfl;have s3:=F6.cell 3 (v:=zi (t.id:Int)) rfl;have s4:=F6.cell 4 (v:=zi (t.level:Int)) rfl;have s5:=F6.cell 5 (v:=zi 1) rfl;have s6:=F6.cell 6 (v:=zu (t.begin_:Int)) rfl;have s7:=F6.cell 7 (v:=zu (t.end_:Int)) rfl;have s8:=F6.cell 8 (v:=zi (t.ops:Int)) rfl;have z5:=F6.frozen 5;have f7:Fix (fun _=>none) (w6.setCell ⟨w5.heap.size,5,none⟩ (zi 2)) w5.heap.size (.cells #[.bool true,.bool false,.bool false,zi (t.id:Int),zi (t.level:Int),zi 2,zu (t.begin_:Int),zu (t.end_:Int),zi (t.ops:Int)] 31):=⟨rfl,by have h:=heap_setCell_same F6.2 5 (zi 2);simpa using h⟩
 have hb7:Below w0.heap.size w0 (w6.setCell ⟨w5.heap.size,5,none⟩ (zi 2)):=hb6.setCell (HB6.out.2.2) _;have hb8:Below w0.heap.size w0 (w6.setCell ⟨w5.heap.size,5,none⟩ (zi 2)):=hb7;have HTH:=zH (there_of (hb8.block w.heap.size HZ0.out.2.2 |>.trans HZ0.out.1));have hfin:=heap_setCells9 (hb8.block w.heap.size HZ0.out.2.2 |>.trans HZ0.out.1) (.bool true) (.bool false) (.bool false) (zi (t.id:Int)) (zi (t.level:Int)) (zi 2) (zu (t.begin_:Int)) (zu (t.end_:Int)) (zi (t.ops:Int));have HFN:=zH hfin;have HBL:=zH (Below.setCells9 (HZ0.out.2.1.trans (hb8.mono (Nat.le_of_lt HZ0.out.2.2))) (Nat.le_refl _) (.bool true) (.bool false) (.bool false) (zi (t.id:Int)) (zi (t.level:Int)) (zi 2) (zu (t.begin_:Int)) (zu (t.end_:Int)) (zi (t.ops:Int)));clear hfin;clear hb8 F6 hb6 f7 hb7 hw6;go_wp2_with (refine wpList_store_mid rfl 31 (.tmp 4) (.tmp 68) rfl w.heap.size 0 #[.bool true,.bool false,.bool false,zi (t.id:Int),zi (t.level:Int),zi 2,zu (t.begin_:Int),zu (t.end_:Int),zi (t.ops:Int)] rfl rfl HTH.out (by kernel_rfl) (by simp[Value.oneCell']) ?_;generalize hws:World.setCells _ _ _ _=ws);have hbut:Below w.heap.size w ((w6.setCell ⟨w5.heap.size,5,none⟩ (zi 2)).setCells w.heap.size 0 [.bool true,.bool false,.bool false,zi (t.id:Int),zi (t.level:Int),zi 2,zu (t.begin_:Int),zu (t.end_:Int),zi (t.ops:Int)]):=HBL.out;have hfin:=HFN.out;rw[show (w6.setCell ⟨w5.heap.size,5,none⟩ (zi 2)).setCells w.heap.size 0 [.bool true,.bool false,.bool false,zi (t.id:Int),zi (t.level:Int),zi 2,zu (t.begin_:Int),zu (t.end_:Int),zi (t.ops:Int)]=ws from hws] at hbut hfin
 (try simp only[Exit.inBlock,Exit.then])
 refine bodyPost_ret (results_cell_row rfl _ _ w.heap.size 31 #[.bool true,.bool false,.bool false,zi (t.id:Int),zi (t.level:Int),zi 2,zu (t.begin_:Int),zu (t.end_:Int),zi (t.ops:Int)] _ _ rfl hfin Tryz.underlying31 rfl (by kernel_rfl)) rfl ?_;exact⟨rfl,hbut⟩
theorem status_any {A:Book} {σ:St} {w:World} (hL:Live A σ w) (s:Nat) (hs:s<8):
 Calls Tryz.prog 12 #[.pointer (some ⟨A.be,0,none⟩),zi (s:Int)] w fun e w'=>e=.returned (.agg (statusCs (σ.status s)))∧Below w.heap.size w w':=by
 unfold St.status
 cases ht:σ.txns.getD s none with
 |none=>exact status_none hL.rep s hs ht
 |some t=>
  by_cases he:0<t.end_
  · cases hc:σ.calls.getD s none with
    |none=>
     have h:=status_10 hL s hs t ht he hc;simp only[if_pos he];exact h
    |some c=>
     have h:=status_11 hL s hs t ht he c hc;simp only[if_pos he];exact h
  · cases hc:σ.calls.getD s none with
    |none=>
     have h:=status_00 hL s hs t ht (by omega) hc;simp only[if_neg he];exact h
    |some c=>
     have h:=status_01 hL s hs t ht (by omega) c hc;simp only[if_neg he];exact h
structure EAt (b:Nat) (w0:World) (σ:St) (w:World):Prop where
 ex:∃ A:Book,A.be=b∧Live A σ w∧Grow (fun _=>none) w0 A.L w
theorem EAt.toBelow {b:Nat} {w0 w:World} {σ:St} (h:EAt b w0 σ w):Below w0.heap.size w0 w:=let ⟨_,_,_,g⟩:=h.ex;g.toBelow
def thn {α:Type} (x:Option α) (f:α→Bool):Bool:=match x with|some y=>f y|none=>false
theorem thn_ok {α:Type} {x:Option α} {f:α→Bool} (h:thn x f=true):∃ y,x=some y∧f y=true:=by
 cases x with
 |none=>cases h
 |some y=>exact⟨y,rfl,h⟩
theorem and_ok {a b:Bool} (h:(a&&b)=true):a=true∧b=true:=by simpa using h
theorem new_at (n l:Nat) (h1:1≤n) (h2:n≤256) (h3:1≤l) (h4:l≤1099511627776) (w:World):
 Calls Tryz.prog 20 #[.agg #[zi (n:Int),zu (l:Int)]] w fun e w'=>∃ b,e=.returned (.tuple #[.pointer (some ⟨b,0,none⟩),zi 0])∧EAt b w (new n l) w':=by
 refine (engineNew n l h1 h2 h3 h4 w).mono ?_;rintro e w' ⟨A,rfl,hL,g⟩;exact⟨A.be,rfl,A,rfl,hL,g⟩
theorem resRow_get {L:Lab} {w:World}:∀ (rs:List Res) (cs:List Value),ResRow L w rs cs→cs.length=rs.length*5∧∀ k r,rs[k]? =some r→cs[5*k]? =some (zi (r.e:Int))∧cs[5*k+1]? =some (zi (r.value:Int))∧cs[5*k+3]? =some (zi (r.over:Int))∧cs[5*k+4]? =some (zi (r.reason:Int))
 |[],cs,h=>⟨by have e:cs=[]:=h;rw[e];rfl,fun k r hk=>by simp at hk⟩
 |r0::rs,cs,h=>by
  obtain⟨v,c,rfl,_,h2⟩:=h;obtain⟨e,ih⟩:=resRow_get rs c h2;refine⟨by simp[e];omega,fun k r hk=>?_⟩
  cases k with
  |zero=>
   obtain rfl:r0=r:=by simpa using hk
   exact⟨rfl,rfl,rfl,rfl⟩
  |succ k=>
   have:=ih k r (by simpa using hk);rw[show 5*(k+1)=5*k+5 by omega];exact this
inductive Kept where
 |obj (k:Nat) (o:Obj)
 |row (size:Nat) (v:Value) (xs:List Value)
 |far (k:Nat) (o:Obj)
 |floor (n:Nat)
def Kept.holds (L:Lab) (w:World):Kept→Prop
 |.obj k o=>Fix L w k o
 |.row size v xs=>FRow L w size v xs
 |.far k o=>L k=some .tmp∧w.heap[k]? =some o
 |.floor n=>n≤w.heap.size
theorem Kept.grow {L L':Lab} {w w':World} (g:Grow L w L' w'):∀ {k:Kept},k.holds L w→k.holds L' w'
 |.obj _ _,h=>Fix.grow h g
 |.row _ _ _,h=>FRow.grow h g
 |.far _ _,h=>⟨(g.lab _ (lt_of h.2)).trans h.1,(g.keep _ (lt_of h.2) h.1).trans h.2⟩
 |.floor _,h=>Nat.le_trans h g.size
def Kepts (L:Lab) (w:World):List Kept→Prop
 |[]=>True
 |k::ks=>k.holds L w∧Kepts L w ks
theorem Kepts.grow {L L':Lab} {w w':World} (g:Grow L w L' w'):∀ {ks:List Kept},Kepts L w ks→Kepts L' w' ks
 |[],_=>trivial
 |_::_,⟨h,t⟩=>⟨Kept.grow g h,Kepts.grow g t⟩
structure EKt (b:Nat) (w0:World) (ks:List Kept) (σ:St) (w:World):Prop where
 ex:∃ A:Book,A.be=b∧Live A σ w∧Grow (fun _=>none) w0 A.L w∧Kepts A.L w ks
theorem EAt.kt {b:Nat} {w0 w:World} {σ:St} (h:EAt b w0 σ w):EKt b w0 [] σ w:=let ⟨A,e,l,g⟩:=h.ex;⟨A,e,l,g,trivial⟩
theorem EKt.at {b:Nat} {w0 w:World} {σ:St} {ks:List Kept} (h:EKt b w0 ks σ w):EAt b w0 σ w:=let ⟨A,e,l,g,_⟩:=h.ex;⟨A,e,l,g⟩
theorem EKt.toBelow {b:Nat} {w0 w:World} {σ:St} {ks:List Kept} (h:EKt b w0 ks σ w):Below w0.heap.size w0 w:=h.at.toBelow
theorem EKt.tail {b:Nat} {w0 w:World} {σ:St} {k:Kept} {ks:List Kept} (h:EKt b w0 (k::ks) σ w):EKt b w0 ks σ w:=let ⟨A,e,l,g,_,t⟩:=h.ex;⟨A,e,l,g,t⟩
theorem EKt.below {b:Nat} {w0 w w':World} {σ:St} {ks:List Kept} (h:EKt b w0 ks σ w) (hb:Below w.heap.size w w'):EKt b w0 ks σ w':=
 let ⟨A,e,l,g,t⟩:=h.ex
 ⟨A,e,l.below hb,g.trans (Grow.below hb),Kepts.grow (Grow.below hb) t⟩
theorem EKt.alloc {b:Nat} {w0 w:World} {σ:St} {ks:List Kept} (h:EKt b w0 ks σ w) (o:Obj):EKt b w0 (.obj w.heap.size o::ks) σ (w.alloc o):=
 let ⟨A,e,l,g,t⟩:=h.ex
 ⟨A,e,l.alloc _,g.trans (Grow.alloc _ _ _),fix_next l.rep.mem.fresh _ rfl,Kepts.grow (Grow.alloc _ _ _) t⟩
theorem EKt.obj {b:Nat} {w0 w:World} {σ:St} {ks:List Kept} {k:Nat} {o:Obj} (h:EKt b w0 ks σ w) (hm:.obj k o∈ks):w.heap[k]? =some o:=by
 obtain⟨A,_,_,_,t⟩:=h.ex
 induction ks with
 |nil=>cases hm
 |cons x ks ih=>
  rcases List.mem_cons.1 hm with rfl|hm
  · exact t.1.2
  · exact ih h.tail hm t.2
def EV (b:Nat) (w0:World) (ks:List Kept) (σ:St) (v:Value):Ending→World→Prop:=fun e w'=>e=.returned v∧EKt b w0 ks σ w'
theorem begin_kt {b:Nat} {w0 w:World} {ks:List Kept} {σ σ1:St} (h:EKt b w0 ks σ w) {s level id:Nat} (hs:s<8) (hr:beginOk σ s level=some (σ1,id)):
 Calls Tryz.prog 34 #[.pointer (some ⟨b,0,none⟩),zi (s:Int),zi (level:Int)] w (EV b w0 ks σ1 (.tuple #[zi (id:Int),zi 0])):=by
 obtain⟨A,rfl,hL,g,t⟩:=h.ex;refine (begin_to hs hr A w hL).mono ?_;rintro e w' ⟨A',rfl,hL',g',e'⟩;exact⟨rfl,A',e',hL',g.trans g',Kepts.grow g' t⟩
theorem do_kt {b:Nat} {w0 w:World} {ks:List Kept} {σ σ1 σ2:St} (h:EKt b w0 ks σ w) {s F err:Nat} {o:En.Op} {r:Res} (hs:s<8) (hi:issueOk σ s o=some σ1) (hF:F≤13824000) (hr:runDo F σ1 s=some (σ2,r,err)):
 Calls Tryz.prog 25 #[.pointer (some ⟨b,0,none⟩),zi (s:Int),.agg #[zi (o.kind:Int),zi (o.key:Int),zi (o.hi:Int),zi (o.value:Int)]] w (fun e w'=>∃ va vn vc,e=.returned (.tuple #[.agg #[zi (r.e:Int),zi (r.value:Int),.slice va vn vc,zi (r.over:Int),zi (r.reason:Int)],zi (err:Int)])∧vn=r.pairs.length∧EKt b w0 (.row 2 (.slice va vn vc) (pairCs r.pairs)::ks) σ2 w'):=by
 obtain⟨A,rfl,hL,g,t⟩:=h.ex;refine (do_any hL s hs o σ1 (issue_to hs hi) F hF σ2 r err hr).mono ?_;rintro e w' ⟨A',vp,rfl,hf,hL',g',e'⟩;obtain⟨va,vn,vc,rfl⟩:=frow_form hf;have hvn:vn=r.pairs.length:=by
  obtain⟨a,n,c,e0,h1,_⟩:=hf;simp only[Value.slice.injEq] at e0;rw[pairCs_len] at h1;omega
 exact⟨va,vn,vc,rfl,hvn,A',e',hL',g.trans g',hf,Kepts.grow g' t⟩
def WKt (b:Nat) (w0:World) (ks:List Kept) (σ':St) (rs:List Res) (err:Nat):Ending→World→Prop:=fun e w'=>
 ∃ rb ro rc,e=.returned (.tuple #[.slice (some ⟨rb,ro,none⟩) rs.length rc,zi (err:Int)])∧EKt b w0 ks σ' w'∧∀ k r,rs[k]? =some r→
  w'.cell? ⟨rb,ro+5*k,none⟩=some (zi (r.e:Int))∧w'.cell? ⟨rb,ro+5*k+1,none⟩=some (zi (r.value:Int))∧w'.cell? ⟨rb,ro+5*k+3,none⟩=some (zi (r.over:Int))∧w'.cell? ⟨rb,ro+5*k+4,none⟩=some (zi (r.reason:Int))
theorem whole_kt {b:Nat} {w0 w:World} {ks:List Kept} {σ σ':St} (h:EKt b w0 ks σ w) {s level F err:Nat} {ops:List En.Op} {rs:List Res} (xs:Array Value) (n:Nat) (hs:s<8) (hF:F≤13824000) (hr:runWhole F σ s level ops=some (σ',rs,err)) (hx:xs=(opsCs ops).toArray) (hl:ops.length=n) (hn:n≤1000) (hrs:0<rs.length):
 Calls Tryz.prog 22 #[.pointer (some ⟨b,0,none⟩),zi (s:Int),zi (level:Int),.slice (some ⟨w.heap.size,0,none⟩) n n] (w.alloc (.cells xs 29)) (WKt b w0 ks σ' rs err):=by
 obtain⟨A,rfl,hL,g,t⟩:=h.ex;have hol:∀ l:List En.Op,(opsCs l).length=l.length*4:=fun l=>by induction l with|nil=>rfl|cons o l ih=>simp[opsCs,ih];omega
 subst hx;refine (whole_any (hL.alloc _) s hs level ops _ n n (frow_block (xs:=opsCs ops) (fix_next hL.rep.mem.fresh _ rfl) (by rw[hol,hl]) (by omega)) (by omega) F hF σ' rs err hr).mono ?_;rintro e w' ⟨A',vo,cs,rfl,p1,p2,p3,p4,p5⟩;obtain⟨⟨a,m,cap,rfl,hlen,_,_,h5⟩,_⟩:=p1;obtain⟨q1,q2⟩:=resRow_get rs cs p2;obtain rfl:m=rs.length:=by omega
 rcases h5 with h5|⟨rb,ro,rfl,_,_,hc⟩
 · exact absurd h5 (by omega)
 · refine⟨rb,ro,cap,rfl,⟨A',p5,p3,(g.trans (Grow.alloc _ _ _)).trans p4,Kepts.grow ((Grow.alloc _ _ _).trans p4) t⟩,fun k r hk=>?_⟩
   obtain⟨z0,z1,z3,z4⟩:=q2 k r hk;have hcc:∀ j v,cs[j]? =some v→w'.cell? ⟨rb,ro+j,none⟩=some v:=fun j v hj=>by
    have hj':j<cs.length:=by
     rcases Nat.lt_or_ge j cs.length with h|h
     · exact h
     · rw[List.getElem?_eq_none h] at hj;cases hj
    exact (hc j (by omega)).trans hj
   exact⟨hcc _ _ z0,hcc _ _ z1,hcc _ _ z3,hcc _ _ z4⟩
def PS (w w':World):Prop:=∀ (g:Nat) (cs:Array Value),w.heap[g]? =some (Obj.cells cs 134)→w'.heap[g]? =w.heap[g]?
theorem PS.trans {w w1 w2:World} (h:PS w w1) (k:PS w1 w2):PS w w2:=fun g cs hg=>(k g cs ((h g cs hg).trans hg)).trans (h g cs hg)
theorem PS.below {w w':World} (h:Below w.heap.size w w'):PS w w':=fun g cs hg=>h.block g (lt_of hg)
theorem PS.grown {w w' : World} {ob : Option Nat} (h : w.grownBy w' ob) (ht : ∀ (g : Nat), ob = some g → ∃ (cs : Array Value) (T : TypeId), w.heap[g]? = some (Obj.cells cs T) ∧ T ≠ 134) : PS w w' := fun g cs hg => h.block g (lt_of hg) (by
  intro e
  obtain⟨cs',T,h1,h2⟩:=ht g e.symm
  rw[hg] at h1
  simp only[Option.some.injEq,Obj.cells.injEq] at h1
  exact h2 h1.2.1.symm)
theorem PS.but {w w' : World} {b : Nat} {cs : Array Value} {T : TypeId} (h : But b w w') (hb : w.heap[b]? = some (.cells cs T)) (hT : T ≠ 134) : PS w w' := fun g cs' hg => h.block g (by
  rintro rfl
  rw[hb] at hg
  simp only[Option.some.injEq,Obj.cells.injEq] at hg
  exact hT hg.2.1)
theorem own_ps {w w':World} {base:Nat} {v:Value} {n:Nat} {xs:List Value} (h:w.ownsRow base 134 2 v n xs) (hp:PS w w'):w'.ownsRow base 134 2 v n xs:=by
 rcases h.2 with ⟨e1,e2⟩|⟨g,cap',cur,hv,hb',hg,hx1,hx2,hx3,hx4⟩
 · exact⟨h.1,.inl ⟨e1,e2⟩⟩
 · exact⟨h.1,.inr ⟨g,cap',cur,hv,hb',(hp g _ hg).trans hg,hx1,hx2,hx3,hx4⟩⟩
def EvO (base:Nat) (w:World):List Ev→List Value→Prop
 |[],xs=>xs=[]
 |e::l,xs=>∃ vp ys,xs=evCs e vp++ys∧w.ownsRow base 134 2 vp e.res.pairs.length (pairCs e.res.pairs)∧EvO base w l ys
theorem EvO.ps {base:Nat} {w w':World} (hp:PS w w'):∀ {l:List Ev} {xs:List Value},EvO base w l xs→EvO base w' l xs
 |[],_,h=>h
 |_::_,_,⟨vp,ys,h1,h2,h3⟩=>⟨vp,ys,h1,own_ps h2 hp,EvO.ps hp h3⟩
theorem EvO.snoc {base:Nat} {w:World} {e:Ev} {vp:Value} (hp:w.ownsRow base 134 2 vp e.res.pairs.length (pairCs e.res.pairs)):∀ {l:List Ev} {xs:List Value},EvO base w l xs→EvO base w (l++[e]) (xs++evCs e vp)
 |[],xs,h=>by
  have h0:xs=[]:=h;subst h0;exact⟨vp,[],by simp,hp,rfl⟩
 |_::_,_,⟨v,ys,h1,h2,h3⟩=>⟨v,ys++evCs e vp,by rw[h1,List.append_assoc],h2,EvO.snoc hp h3⟩
theorem Evs.at {L:Lab} {w:World}:∀ {l:List Ev} {xs:List Value},Evs L w l xs→∀ {k:Nat} {e:Ev},l[k]? =some e→∃ vp,PRow L w vp (pairCs e.res.pairs)∧∀ j,j<12→xs[k*12+j]? =(evCs e vp)[j]?
 |[],_,_,_,_,h=>by cases h
 |e'::l,xs,⟨vp,ys,h1,h2,h3⟩,0,e,h=>by
  obtain rfl:e'=e:=by simpa using h
  refine⟨vp,h2,fun j hj=>?_⟩;rw[h1,Nat.zero_mul,Nat.zero_add,List.getElem?_append_left (by exact hj)]
 |e'::l,xs,⟨vp,ys,h1,h2,h3⟩,k+1,e,h=>by
  obtain⟨vq,g1,g2⟩:=Evs.at h3 (k:=k) (e:=e) (by simpa using h);refine⟨vq,g1,fun j hj=>?_⟩;rw[h1,List.getElem?_append_right (by show 12≤_;omega),show (k+1)*12+j - (evCs e' vp).length=k*12+j by show _ - 12=_;omega];exact g2 j hj
theorem infoEv:(Tryz.prog.info? 83).map (fun i=>(i.zero,i.size,i.bytes))=some (some (.agg #[zi 0,zi 0,zu 0,zi 0,zi 0,zi 0,zi 0,zi 0,zi 0,.slice none 0 0,zi 0,zi 0]),12,112):=by kernel_rfl
theorem own_low {w:World} {base base':Nat} {e:TypeId} {size:Nat} {v:Value} {n:Nat} {xs:List Value} (h:w.ownsRow base e size v n xs) (hb:base'≤base):w.ownsRow base' e size v n xs:=by
 rcases h.2 with ⟨e1,e2⟩|⟨g,cap',cur,hv,hb',hg,hx⟩
 · exact⟨h.1,.inl ⟨e1,e2⟩⟩
 · exact⟨h.1,.inr ⟨g,cap',cur,hv,Nat.le_trans hb hb',hg,hx⟩⟩
theorem own_head {w:World} {base:Nat} {e:TypeId} {size:Nat} {v:Value} {n:Nat} {xs:List Value} (h:w.ownsRow base e size v n xs) (hn:0<n):∃ g cap,v=.slice (some ⟨g,0,none⟩) n cap∧∃ cur,w.heap[g]? =some (.cells cur e):=by
 rcases h.2 with ⟨_,h0⟩|⟨g,cap,cur,hv,hb,hg,hnc,hcm,_⟩
 · omega
 · exact⟨g,cap,hv,cur,hg⟩
theorem tale_any {A:Book} {σ:St} {w:World} (hR:Rep A σ w) (hn:σ.tale.length<100000) (hp:∀ e∈σ.tale,e.res.pairs.length≤1000000):
 Calls Tryz.prog 28 #[.pointer (some ⟨A.be,0,none⟩)] w fun e w'=>∃ v cs,e=.returned v∧w'.ownsRow w.heap.size 83 12 v σ.tale.length cs∧EvO w.heap.size w' σ.tale cs∧Below w.heap.size w w':=by
 obtain⟨ii,hii,hz0,hz1,hz2⟩:=info_parts infoEv;have e24:w.cell? ⟨A.be,24,none⟩=some A.vtale:=hR.eng 24 rfl;obtain⟨ta,tc,hv,_⟩:=Ow.own_form (hR.mem.all .tale).1;rw[hv] at e24;obtain⟨n,hnn⟩:∃ n,n=σ.tale.length:=⟨_,rfl⟩
 rw[←hnn] at hv e24 hn ⊢;have H0:=zH (zA hR (zA hn (zA hp (zA hv hnn))));clear hR hn hp hv hnn;go_enter Tryz.func28,Tryz.ntmps28;go_wp2
 go_loopw [3,11] (fun l i wr=>∃ (k:Nat) (cs:List Value),i=zi (k:Int)∧k≤n∧wr.ownsRow w.heap.size 83 12 l k cs∧EvO w.heap.size wr (σ.tale.take k) cs∧Below w.heap.size w wr) (fun _ i _=>n - (intOf i).toNat)
 case atStart=>exact⟨0,[],rfl,Nat.zero_le _,World.ownsRow_nil _ _ _ _,rfl,Below.refl _ _⟩
 case round=>
  obtain⟨k,cs,rfl,hkn,hown,hev,hb⟩:=hrel;obtain⟨la,lc,rfl,hlc1,hlc2,_⟩:=Ow.own_form hown;obtain⟨hR,hn,hp,hv,hnn⟩:=H0.out
  by_cases hlt:k<n
  · obtain⟨ev,hek⟩:∃ ev,σ.tale[k]? =some ev:=⟨_,List.getElem?_eq_getElem (by omega)⟩
    have hr:=hR.below hb;have ht:wr.ownsRow 0 83 12 A.vtale σ.tale.length A.taleCs:=(hr.mem.all .tale).1;rw[←hnn] at ht;obtain⟨gt,tc',hv',_⟩:=own_head ht (by omega);rw[hv] at hv';simp only[Value.slice.injEq] at hv';obtain⟨rfl,_,rfl⟩:=hv';obtain⟨vp,hpr,hcs⟩:=Evs.at hr.ev hek;obtain⟨pa,pn,pc,rfl⟩:=frow_form hpr.1;have hpn:ev.res.pairs.length=pn:=by
     obtain⟨_,_,_,e0,h1,_⟩:=hpr.1;simp only[Value.slice.injEq] at e0;rw[pairCs_len] at h1;omega
    have hpl:=hp ev (List.mem_of_getElem? hek);rw[hv] at ht;have hX:∀ j v,j<12→(evCs ev (.slice pa pn pc))[j]? =some v→wr.cell? ⟨gt,k*12+j,none⟩=some v:=fun j v hj hj2=>by
     rw[ht.cellAt (k*12+j) (by omega),hcs j hj];exact hj2
    have X0:=hX 0 _ (by omega) rfl;rw[Nat.add_zero] at X0;have X1:=hX 1 _ (by omega) rfl;have X2:=hX 2 _ (by omega) rfl;have X3:=hX 3 _ (by omega) rfl;have X4:=hX 4 _ (by omega) rfl;have X5:=hX 5 _ (by omega) rfl;have X6:=hX 6 _ (by omega) rfl;have X7:=hX 7 _ (by omega) rfl;have X8:=hX 8 _ (by omega) rfl;have X9:=hX 9 _ (by omega) rfl;have X10:=hX 10 _ (by omega) rfl;have X11:=hX 11 _ (by omega) rfl;have HC:Hid (∀ w1,Below wr.heap.size wr w1→Calls Tryz.prog 49 #[.agg #[zi (ev.res.e:Int),zi (ev.res.value:Int),.slice pa pn pc,zi (ev.res.over:Int),zi (ev.res.reason:Int)]] w1 fun e w'=>∃ qa qc,e=.returned (.agg #[zi (ev.res.e:Int),zi (ev.res.value:Int),.slice qa pn qc,zi (ev.res.over:Int),zi (ev.res.reason:Int)])∧w'.ownsRow w1.heap.size 134 2 (.slice qa pn qc) pn (pairCs ev.res.pairs)∧Below w1.heap.size w1 w'):=fun w1 hb1=>copied_any w1 _ _ _ _ pa pn pc ev.res.pairs (FRow.row (hpr.1.grow (Grow.below hb1))) hpn (by omega)
    have b0:((k:Int)<(n:Int))=True:=by simp;omega
    have b1:(k:Int)<(n:Int):=by omega
    have b2:(0:Int)≤(k:Int):=by omega
    have n3:IntKind.i64.wrap ((k:Int)+1)=(k:Int)+1:=by rw[IntKind.wrap_i64];omega
    have HX:=zH (zA hown (zA hev (zA hb (zA hek (zA hlt (zA hpn (zA hn hnn)))))));clear hown hev hb hek hlt hpn hn hnn hR hp hv hr ht hpr hcs hpl hX hkn;have HCA:Hid (∀ w1,w1=wr.alloc (.cells #[zi (ev.kind:Int),zi (ev.t:Int),zu (ev.n:Int),zi (ev.op.kind:Int),zi (ev.op.key:Int),zi (ev.op.hi:Int),zi (ev.op.value:Int),zi (ev.res.e:Int),zi (ev.res.value:Int),.slice pa pn pc,zi (ev.res.over:Int),zi (ev.res.reason:Int)] 83)→(w1.cell? ⟨wr.heap.size,7,none⟩=some (zi (ev.res.e:Int))∧w1.cell? ⟨wr.heap.size,8,none⟩=some (zi (ev.res.value:Int))∧w1.cell? ⟨wr.heap.size,9,none⟩=some (.slice pa pn pc)∧w1.cell? ⟨wr.heap.size,10,none⟩=some (zi (ev.res.over:Int))∧w1.cell? ⟨wr.heap.size,11,none⟩=some (zi (ev.res.reason:Int)))):=by
     rintro w1 rfl;have h:=heap_alloc_new wr (.cells #[zi (ev.kind:Int),zi (ev.t:Int),zu (ev.n:Int),zi (ev.op.kind:Int),zi (ev.op.key:Int),zi (ev.op.hi:Int),zi (ev.op.value:Int),zi (ev.res.e:Int),zi (ev.res.value:Int),.slice pa pn pc,zi (ev.res.over:Int),zi (ev.res.reason:Int)] 83);refine⟨?_,?_,?_,?_,?_⟩<;>(rw[cell_of_row _ _ _ _ _ _ h];rfl)
    go_upto_region 5 with fail
    have hb1:Below wr.heap.size wr (wr.alloc (.cells #[zi (ev.kind:Int),zi (ev.t:Int),zu (ev.n:Int),zi (ev.op.kind:Int),zi (ev.op.key:Int),zi (ev.op.hi:Int),zi (ev.op.value:Int),zi (ev.res.e:Int),zi (ev.res.value:Int),.slice pa pn pc,zi (ev.res.over:Int),zi (ev.res.reason:Int)] 83)):=(Below.refl _ _).alloc (Nat.le_refl _) _;have h1:=heap_alloc_new wr (.cells #[zi (ev.kind:Int),zi (ev.t:Int),zu (ev.n:Int),zi (ev.op.kind:Int),zi (ev.op.key:Int),zi (ev.op.hi:Int),zi (ev.op.value:Int),zi (ev.res.e:Int),zi (ev.res.value:Int),.slice pa pn pc,zi (ev.res.over:Int),zi (ev.res.reason:Int)] 83);obtain⟨y7,y8,y9,y10,y11⟩:=HCA.out _ rfl;have HCC:=zH (HC.out _ hb1);have hsz:(wr.alloc (.cells #[zi (ev.kind:Int),zi (ev.t:Int),zu (ev.n:Int),zi (ev.op.kind:Int),zi (ev.op.key:Int),zi (ev.op.hi:Int),zi (ev.op.value:Int),zi (ev.res.e:Int),zi (ev.res.value:Int),.slice pa pn pc,zi (ev.res.over:Int),zi (ev.res.reason:Int)] 83)).heap.size=wr.heap.size+1:=by simp
    have H1:=zH (zA hb1 (zA h1 hsz));clear hb1 h1 HC HCA X0 X1 X2 X3 X4 X5 X6 X7 X8 X9 X10 X11 hsz;generalize wr.alloc _=w1 at*;go_upto_region 6 with (first|(go_at_call 49;refine HCC.out.mono ?_;rintro e w2 ⟨qa,qc,rfl,q1,q2⟩;have hb2:=H1.out.1.trans (q2.mono H1.out.1.size);have h2:w2.heap[wr.heap.size]? =some (.cells #[zi (ev.kind:Int),zi (ev.t:Int),zu (ev.n:Int),zi (ev.op.kind:Int),zi (ev.op.key:Int),zi (ev.op.hi:Int),zi (ev.op.value:Int),zi (ev.res.e:Int),zi (ev.res.value:Int),.slice pa pn pc,zi (ev.res.over:Int),zi (ev.res.reason:Int)] 83):=(q2.block _ (by rw[H1.out.2.2];omega)).trans H1.out.2.1;have H2:=zH (zA q1 (zA q2 (zA hb2 h2)));have thr:=there_of h2;clear q1 q2 hb2 h2)|(refine wpList_store_mid rfl 49 (.tmp 18) (.tmp 17) rfl wr.heap.size 7 #[zi (ev.res.e:Int),zi (ev.res.value:Int),.slice qa pn qc,zi (ev.res.over:Int),zi (ev.res.reason:Int)] rfl rfl (by intro j hj;have h:=thr (7+j) (by simp at hj ⊢;omega);simpa [Nat.add_assoc] using h) (by kernel_rfl) (by simp[Value.oneCell']) ?_;generalize hws:World.setCells _ _ _ _=w3))
    obtain⟨q1,q2,hb2,h2⟩:=H2.out;have h3:w3.heap[wr.heap.size]? =some (.cells #[zi (ev.kind:Int),zi (ev.t:Int),zu (ev.n:Int),zi (ev.op.kind:Int),zi (ev.op.key:Int),zi (ev.op.hi:Int),zi (ev.op.value:Int),zi (ev.res.e:Int),zi (ev.res.value:Int),.slice qa pn qc,zi (ev.res.over:Int),zi (ev.res.reason:Int)] 83):=by
     rw[←hws];have g1:=heap_setCell_same h2 7 (zi (ev.res.e:Int));have g2:=heap_setCell_same g1 8 (zi (ev.res.value:Int));have g3:=heap_setCell_same g2 9 (.slice qa pn qc);have g4:=heap_setCell_same g3 10 (zi (ev.res.over:Int));have g5:=heap_setCell_same g4 11 (zi (ev.res.reason:Int));exact g5
    have hbut:But wr.heap.size w2 w3:=by rw[←hws];exact But.setCells _ _ _ _
    obtain⟨hown,hev,hb,hek,hlt,hpn,hn,hnn⟩:=HX.out;have hsame:∀ b,b<wr.heap.size→w3.heap[b]? =wr.heap[b]? :=fun b hb'=>(hbut.block b (by omega)).trans (hb2.block b hb')
    have hown3:=own_same (w':=w3.alloc (.cells #[zi (ev.kind:Int),zi (ev.t:Int),zu (ev.n:Int),zi (ev.op.kind:Int),zi (ev.op.key:Int),zi (ev.op.hi:Int),zi (ev.op.value:Int),zi (ev.res.e:Int),zi (ev.res.value:Int),.slice qa pn qc,zi (ev.res.over:Int),zi (ev.res.reason:Int)] 83)) hown fun g hg=>(heap_alloc_old _ _ (Nat.lt_of_lt_of_le (hown.lt g hg).2 (by rw[hbut.size];exact hb2.size))).trans (hsame g (hown.lt g hg).2)
    have ps3:PS wr (w3.alloc (.cells #[zi (ev.kind:Int),zi (ev.t:Int),zu (ev.n:Int),zi (ev.op.kind:Int),zi (ev.op.key:Int),zi (ev.op.hi:Int),zi (ev.op.value:Int),zi (ev.res.e:Int),zi (ev.res.value:Int),.slice qa pn qc,zi (ev.res.over:Int),zi (ev.res.reason:Int)] 83)):=((PS.below hb2).trans (PS.but hbut h2 (by decide))).trans (PS.below ((Below.refl _ _).alloc (Nat.le_refl _) _));have ps2:PS w2 (w3.alloc (.cells #[zi (ev.kind:Int),zi (ev.t:Int),zu (ev.n:Int),zi (ev.op.kind:Int),zi (ev.op.key:Int),zi (ev.op.hi:Int),zi (ev.op.value:Int),zi (ev.res.e:Int),zi (ev.res.value:Int),.slice qa pn qc,zi (ev.res.over:Int),zi (ev.res.reason:Int)] 83)):=(PS.but hbut h2 (by decide)).trans (PS.below ((Below.refl _ _).alloc (Nat.le_refl _) _));have hpr:(w3.alloc (.cells #[zi (ev.kind:Int),zi (ev.t:Int),zu (ev.n:Int),zi (ev.op.kind:Int),zi (ev.op.key:Int),zi (ev.op.hi:Int),zi (ev.op.value:Int),zi (ev.res.e:Int),zi (ev.res.value:Int),.slice qa pn qc,zi (ev.res.over:Int),zi (ev.res.reason:Int)] 83)).ownsRow w.heap.size 134 2 (.slice qa pn qc) pn (pairCs ev.res.pairs):=own_low (own_ps q1 ps2) (by rw[H1.out.2.2];have:=hb.size;omega);have hb3:Below w.heap.size w (w3.alloc (.cells #[zi (ev.kind:Int),zi (ev.t:Int),zu (ev.n:Int),zi (ev.op.kind:Int),zi (ev.op.key:Int),zi (ev.op.hi:Int),zi (ev.op.value:Int),zi (ev.res.e:Int),zi (ev.res.value:Int),.slice qa pn qc,zi (ev.res.over:Int),zi (ev.res.reason:Int)] 83)):=by
     refine Below.alloc ⟨?_,?_,?_,?_,?_⟩ (by rw[hbut.size];exact Nat.le_trans hb.size hb2.size) _
     · exact hbut.os.trans (hb2.os.trans hb.os)
     · exact hbut.tape.trans (hb2.tape.trans hb.tape)
     · exact hbut.output.trans (hb2.output.trans hb.output)
     · rw[hbut.size];exact Nat.le_trans hb.size hb2.size
     · exact fun b hb'=>(hsame b (Nat.lt_of_lt_of_le hb' hb.size)).trans (hb.block b hb')
    have htyp:∀ (g:Nat),(Value.slice la k lc).ownBlock=some g→∃ (cs:Array Value) (T:TypeId),(w3.alloc (.cells #[zi (ev.kind:Int),zi (ev.t:Int),zu (ev.n:Int),zi (ev.op.kind:Int),zi (ev.op.key:Int),zi (ev.op.hi:Int),zi (ev.op.value:Int),zi (ev.res.e:Int),zi (ev.res.value:Int),.slice qa pn qc,zi (ev.res.over:Int),zi (ev.res.reason:Int)] 83)).heap[g]? =some (Obj.cells cs T)∧T≠134:=fun g hg=>by
     rcases hown3.2 with ⟨e0,_⟩|⟨g',cap,cur,hv,_,hgc,_⟩
     · simp only[Value.slice.injEq] at e0
       rw[e0.1] at hg;cases hg
     · rw[hv] at hg
       obtain rfl:g'=g:=by simpa [Value.ownBlock] using hg
       exact⟨cur,_,hgc,by decide⟩
    have HZ:=zH (zA hown3 (zA (hev.ps ps3) (zA hpr (zA hb3 (zA htyp (zA hek (zA hlt (zA hpn hn))))))));have Z0:=(show w3.cell? ⟨wr.heap.size,0,none⟩=some _ by rw[cell_of_row _ _ _ _ _ _ h3];rfl)
    have Z1:=(show w3.cell? ⟨wr.heap.size,1,none⟩=some _ by rw[cell_of_row _ _ _ _ _ _ h3];rfl)
    have Z2:=(show w3.cell? ⟨wr.heap.size,2,none⟩=some _ by rw[cell_of_row _ _ _ _ _ _ h3];rfl)
    have Z3:=(show w3.cell? ⟨wr.heap.size,3,none⟩=some _ by rw[cell_of_row _ _ _ _ _ _ h3];rfl)
    have Z4:=(show w3.cell? ⟨wr.heap.size,4,none⟩=some _ by rw[cell_of_row _ _ _ _ _ _ h3];rfl)
    have Z5:=(show w3.cell? ⟨wr.heap.size,5,none⟩=some _ by rw[cell_of_row _ _ _ _ _ _ h3];rfl)
    have Z6:=(show w3.cell? ⟨wr.heap.size,6,none⟩=some _ by rw[cell_of_row _ _ _ _ _ _ h3];rfl)
    have Z7:=(show w3.cell? ⟨wr.heap.size,7,none⟩=some _ by rw[cell_of_row _ _ _ _ _ _ h3];rfl)
    have Z8:=(show w3.cell? ⟨wr.heap.size,8,none⟩=some _ by rw[cell_of_row _ _ _ _ _ _ h3];rfl)
    have Z9:=(show w3.cell? ⟨wr.heap.size,9,none⟩=some _ by rw[cell_of_row _ _ _ _ _ _ h3];rfl)
    have Z10:=(show w3.cell? ⟨wr.heap.size,10,none⟩=some _ by rw[cell_of_row _ _ _ _ _ _ h3];rfl)
    have Z11:=(show w3.cell? ⟨wr.heap.size,11,none⟩=some _ by rw[cell_of_row _ _ _ _ _ _ h3];rfl)
    clear q1 q2 hb2 h2 h3 hbut hown hev hb hek hlt hpn hn hnn hsame hown3 ps3 ps2 hpr hb3 htyp H2 HX H1 HCC hws thr y7 y8 y9 y10 y11;go_wp2_with (refine Ow.wpList_append_to _ rfl (.tmp 19) (.tmp 21) 72 rfl w.heap.size 83 ii _ 12 112 Tryz.underlying72 hii hz0 hz1 hz2 rfl (by decide) (.slice la k lc) k cs rfl HZ.out.1 ⟨w3.heap.size,0,none⟩ 1 1 (by omega) [zi (ev.kind:Int),zi (ev.t:Int),zu (ev.n:Int),zi (ev.op.kind:Int),zi (ev.op.key:Int),zi (ev.op.hi:Int),zi (ev.op.value:Int),zi (ev.res.e:Int),zi (ev.res.value:Int),.slice qa pn qc,zi (ev.res.over:Int),zi (ev.res.reason:Int)] rfl rfl (fun j u hu=>Ow.new_row w3 [zi (ev.kind:Int),zi (ev.t:Int),zu (ev.n:Int),zi (ev.op.kind:Int),zi (ev.op.key:Int),zi (ev.op.hi:Int),zi (ev.op.value:Int),zi (ev.res.e:Int),zi (ev.res.value:Int),.slice qa pn qc,zi (ev.res.over:Int),zi (ev.res.reason:Int)] _ w3.heap.size (by simp) j u hu) (by intro u hu;simp at hu;rcases hu with rfl|rfl|rfl|rfl|rfl|rfl|rfl|rfl|rfl|rfl|rfl|rfl<;>rfl) (by have:=HZ.out.2.2.2.2.2.2.1;have:=HZ.out.2.2.2.2.2.2.2.2;unfold maxLen;omega) (by have:=HZ.out.2.2.2.2.2.2.1;have:=HZ.out.2.2.2.2.2.2.2.2;omega) (HZ.out.2.2.2.1.size) ?_;intro v' w4 q1 q2 q3;obtain⟨av,cv,rfl,_⟩:=Ow.own_form q1;have HY:=zH (zA q1 q2);clear q1 q2 q3)
    go_roundw
    case rel=>
     obtain⟨z1,z2,z3,z4,z5,z6,z7,z8,z9⟩:=HZ.out;obtain⟨q1,q2⟩:=HY.out;have ps4:=PS.grown q2 z5;refine⟨k+1,cs++[zi (ev.kind:Int),zi (ev.t:Int),zu (ev.n:Int),zi (ev.op.kind:Int),zi (ev.op.key:Int),zi (ev.op.hi:Int),zi (ev.op.value:Int),zi (ev.res.e:Int),zi (ev.res.value:Int),.slice qa pn qc,zi (ev.res.over:Int),zi (ev.res.reason:Int)],rfl,z7,q1,?_,⟨q2.os.trans z4.os,q2.tape.trans z4.tape,q2.output.trans z4.output,Nat.le_trans z4.size q2.size,fun b hb=>(q2.block b (Nat.lt_of_lt_of_le hb z4.size) (fun e=>?_)).trans (z4.block b hb)⟩⟩
     · rw[List.take_add_one,z6]
       have h9:EvO w.heap.size w4 (σ.tale.take k++[ev]) (cs++evCs ev (.slice qa pn qc)):=(z2.ps ps4).snoc (by rw[z8];exact own_ps z3 ps4);exact h9
     · have:=(z1.lt b e.symm).1
       omega
    case measure=>have:=HZ.out.2.2.2.2.2.2.1;simp[intOf];omega
  · obtain rfl:k=n:=by omega
    have b0:((k:Int)<(k:Int))=False:=by simp
    have HX:=zH (zA hown (zA hev (zA hb hnn)));clear hown hev hb hnn hlt hkn hn hp hv hR;go_wp2;go_ret;obtain⟨hown,hev,hb,hnn⟩:=HX.out;rw[hnn,List.take_length] at hev;exact⟨_,cs,rfl,hown,hev,hb⟩
structure Dq where
 id:Nat
 level:Nat
 state:Nat
 begin_:Nat
 end_:Nat
 ops:List (En.Op×Res)
 deriving Repr,DecidableEq,Inhabited
structure Okr where
 deals:List Dq
 bonds:List (Nat×Nat)
 last:Nat
 deriving Repr,DecidableEq,Inhabited
def okEv (O:Okr) (e:Ev):Option Okr:=
 if e.kind=1 then (if e.t=O.deals.length+1∧O.last<e.n then some {O with deals:=O.deals++[⟨e.t,e.op.value,1,e.n,0,[]⟩],last:=e.n} else none)
 else match e.t with
 |0=>none
 |k+1=>match O.deals[k]? with
  |none=>none
  |some d=>
   if d.state=1 then
    if e.kind=2 then (if d.end_=0∧d.ops.length<1000 then some {O with deals:=O.deals.set k {d with ops:=d.ops++[(e.op,e.res)]}} else none)
    else if e.kind=3 then (if d.end_=0∧O.last<e.n then some {O with deals:=O.deals.set k {d with end_:=e.n},last:=e.n} else none)
    else if e.kind = 4 then (match e.n with
      |0=>none
      |j+1=>match O.deals[j]? with
        |none=>none
        |some c=>if j+1≤20000∧j≠k∧c.state≠4∧c.end_≠0∧(d.end_=0∨c.end_<d.end_)∧O.bonds.length<100000 then some {O with bonds:=O.bonds++[(k+1,j+1)]} else none)
    else if e.kind=5 then (if d.end_≠0∧O.bonds.all (fun b=>b.1 !=k+1||(match b.2 with|0=>false|j+1=>match O.deals[j]? with|some c=>c.state==3|none=>false))=true then some {O with deals:=O.deals.set k {d with state:=3}} else none)
    else if e.kind=6 then some {O with deals:=O.deals.set k {d with state:=4}}
    else none
   else none
def okTale:List Ev→Okr→Option Okr
 |[],O=>some O
 |e::l,O=>match okEv O e with|some O'=>okTale l O'|none=>none
def dqCs (d:Dq) (v:Value):List Value:=[i64 d.id,i64 d.level,i64 d.state,u64 d.begin_,u64 d.end_,v]
def dqsCs (l:List (Dq×Value)):List Value:=l.flatMap fun p=>dqCs p.1 p.2
theorem dqsCs_len (l:List (Dq×Value)):(dqsCs l).length=l.length*6:=by
 unfold dqsCs
 induction l with
 |nil=>rfl
 |cons a l ih=>rw[List.flatMap_cons,List.length_append,ih,List.length_cons,show (dqCs a.1 a.2).length=6 from rfl];omega
theorem dqsCs_get:∀ (l:List (Dq×Value)) (k j:Nat),j<6→(dqsCs l)[k*6+j]? =(l[k]?).bind fun p=>(dqCs p.1 p.2)[j]?
 |[],_,_,_=>rfl
 |a::l,0,j,hj=>by
  unfold dqsCs;rw[List.flatMap_cons,Nat.zero_mul,Nat.zero_add,List.getElem?_append_left (by exact hj)];rfl
 |a::l,k+1,j,hj=>by
  have h:=dqsCs_get l k j hj;unfold dqsCs at h ⊢;rw[List.flatMap_cons,List.getElem?_append_right (by show 6≤_;omega),show (k+1)*6+j - (dqCs a.1 a.2).length=k*6+j by show _ - 6=_;omega,h];rfl
theorem dqsCs_set:∀ (l:List (Dq×Value)) (k j:Nat) (u:Value) (p p':Dq×Value),j<6→l[k]? =some p→(dqCs p.1 p.2).set j u=dqCs p'.1 p'.2→(dqsCs l).set (k*6+j) u=dqsCs (l.set k p')
 |[],_,_,_,_,_,_,h,_=>by cases h
 |a::l,0,j,u,p,p',hj,h,he=>by
  obtain rfl:a=p:=by simpa using h
  unfold dqsCs;rw[List.flatMap_cons,Nat.zero_mul,Nat.zero_add,List.set_append_left _ _ (by exact hj),he];rfl
 |a::l,k+1,j,u,p,p',hj,h,he=>by
  have ih:=dqsCs_set l k j u p p' hj (by simpa using h) he;unfold dqsCs at ih ⊢;rw[List.flatMap_cons,List.set_append_right _ _ (by show 6≤_;omega),show (k+1)*6+j - (dqCs a.1 a.2).length=k*6+j by show _ - 6=_;omega,ih];rfl
def cqCs (o:En.Op) (r:Res) (vp:Value):List Value:=[i64 o.kind,i64 o.key,i64 o.hi,i64 o.value,i64 r.e,i64 r.value,vp,i64 r.over,i64 r.reason]
def Cqs (base:Nat) (w:World):List (En.Op×Res)→List Value→Prop
 |[],cs=>cs=[]
 |p::l,cs=>∃ vp cs',cs=cqCs p.1 p.2 vp++cs'∧w.ownsRow base 134 2 vp p.2.pairs.length (pairCs p.2.pairs)∧Cqs base w l cs'
theorem Cqs.ps {base:Nat} {w w':World} (hp:PS w w'):∀ {l:List (En.Op×Res)} {cs:List Value},Cqs base w l cs→Cqs base w' l cs
 |[],_,h=>h
 |_::_,_,⟨vp,cs',h1,h2,h3⟩=>⟨vp,cs',h1,own_ps h2 hp,Cqs.ps hp h3⟩
theorem Cqs.snoc {base:Nat} {w:World} {oo:En.Op} {r:Res} {vp:Value} (f:w.ownsRow base 134 2 vp r.pairs.length (pairCs r.pairs)):∀ {l:List (En.Op×Res)} {cs:List Value},Cqs base w l cs→Cqs base w (l++[(oo,r)]) (cs++cqCs oo r vp)
 |[],_,h=>⟨vp,[],by rw[show _=_ from h];simp,f,rfl⟩
 |_::_,_,⟨vp',cs',h1,h2,h3⟩=>⟨vp',_,by rw[h1,List.append_assoc],h2,Cqs.snoc f h3⟩
def CS (w w':World):Prop:=∀ (g:Nat) (cs:Array Value),w.heap[g]? =some (Obj.cells cs 51)→w'.heap[g]? =w.heap[g]?
theorem CS.below {w w':World} (h:Below w.heap.size w w'):CS w w':=fun g cs hg=>h.block g (lt_of hg)
theorem CS.but {w w' : World} {b : Nat} {cs : Array Value} {T : TypeId} (h : But b w w') (hb : w.heap[b]? = some (.cells cs T)) (hT : T ≠ 51) : CS w w' := fun g cs' hg => h.block g (by
  rintro rfl
  rw[hb] at hg
  simp only[Option.some.injEq,Obj.cells.injEq] at hg
  exact hT hg.2.1)
theorem CS.grown {w w' : World} {ob : Option Nat} (h : w.grownBy w' ob) (ht : ∀ (g : Nat), ob = some g → ∃ (cs : Array Value) (T : TypeId), w.heap[g]? = some (Obj.cells cs T) ∧ T ≠ 51) : CS w w' := fun g cs hg => h.block g (lt_of hg) (by
  intro e
  obtain⟨cs',T,h1,h2⟩:=ht g e.symm
  rw[hg] at h1
  simp only[Option.some.injEq,Obj.cells.injEq] at h1
  exact h2 h1.2.1.symm)
theorem own_cs {w w':World} {base size:Nat} {v:Value} {n:Nat} {xs:List Value} (h:w.ownsRow base 51 size v n xs) (hp:CS w w'):w'.ownsRow base 51 size v n xs:=by
 rcases h.2 with ⟨e1,e2⟩|⟨g,cap',cur,hv,hb',hg,hx1,hx2,hx3,hx4⟩
 · exact⟨h.1,.inl ⟨e1,e2⟩⟩
 · exact⟨h.1,.inr ⟨g,cap',cur,hv,hb',(hp g _ hg).trans hg,hx1,hx2,hx3,hx4⟩⟩
structure OkM (base:Nat) (w:World) (O:Okr) (vd vb:Value) (ds:List (Dq×Value)):Prop where
 dl:ds.map (·.1)=O.deals
 dr:w.ownsRow base 44 6 vd ds.length (dqsCs ds)
 ops:∀ (k:Nat) (p:Dq×Value),ds[k]? =some p→∃ cs,w.ownsRow base 51 9 p.2 p.1.ops.length cs∧Cqs 0 w p.1.ops cs
 bd:w.ownsRow base 146 2 vb O.bonds.length (pairCs O.bonds)
theorem OkM.nil (base:Nat) (w:World):OkM base w ⟨[],[],0⟩ (.slice none 0 0) (.slice none 0 0) []:=⟨rfl,World.ownsRow_nil _ _ _ _,(fun k p h=>by cases h),World.ownsRow_nil _ _ _ _⟩
theorem OkM.len {base:Nat} {w:World} {O:Okr} {vd vb:Value} {ds:List (Dq×Value)} (h:OkM base w O vd vb ds):ds.length=O.deals.length:=by rw[←h.dl];simp
theorem OkM.get {base:Nat} {w:World} {O:Okr} {vd vb:Value} {ds:List (Dq×Value)} (h:OkM base w O vd vb ds) {k:Nat} {d:Dq} (hk:O.deals[k]? =some d):∃ v,ds[k]? =some (d,v):=by
 rw[←h.dl,List.getElem?_map] at hk
 cases hq:ds[k]? with
 |none=>rw[hq] at hk;cases hk
 |some x=>
  rw[hq] at hk;obtain rfl:=Option.some.inj hk;exact⟨x.2,rfl⟩
theorem OkM.below {base:Nat} {w w':World} {O:Okr} {vd vb:Value} {ds:List (Dq×Value)} (h:OkM base w O vd vb ds) (hb:Below w.heap.size w w'):OkM base w' O vd vb ds:=
 ⟨h.dl,own_same h.dr fun g hg=>hb.block g (h.dr.lt g hg).2,fun k p hk=>let ⟨cs,h1,h2⟩:=h.ops k p hk;⟨cs,own_cs h1 (CS.below hb),h2.ps (PS.below hb)⟩,own_same h.bd fun g hg=>hb.block g (h.bd.lt g hg).2⟩
theorem at_no (v:Value) (a:Option Addr) (n c:Nat) (id:Int) (hi:id<1∨(n:Int)<id) (w:World):Calls Tryz.prog 48 #[.slice a n c,zi id] w fun e w'=>e=.returned (zi (-1))∧w=w':=by
 have hd:((id<1)=True∧decide (id<1)=true)∨((id<1)=False∧decide (id<1)=false∧((n:Int)<id)=True∧decide ((n:Int)<id)=true):=by
  by_cases h:id<1
  · exact .inl ⟨by simp[h],by simp[h]⟩
  · have h2:=hi.resolve_left h
    exact .inr ⟨by simp[h],by simp[h],by simp[h2],by simp[h2]⟩
 clear hi
 rcases hd with ⟨d1,d2⟩|⟨d1,d2,d3,d4⟩
 all_goals (
  go_enter Tryz.func48,Tryz.ntmps48
  go_wp2
  go_ret
  exact⟨rfl,rfl⟩
 )
theorem at_yes (a:Option Addr) (n c k:Nat) (hk:k<n) (hn:n<1000000) (w:World):Calls Tryz.prog 48 #[.slice a n c,zi ((k+1:Nat):Int)] w fun e w'=>e=.returned (zi (k:Int))∧w=w':=by
 have d1:(((k+1:Nat):Int)<1)=False:=by simp;omega
 have d2:decide (((k+1:Nat):Int)<1)=false:=by simp;omega
 have d3:((n:Int)<((k+1:Nat):Int))=False:=by simp;omega
 have d4:decide ((n:Int)<((k+1:Nat):Int))=false:=by simp;omega
 have m1:IntKind.i64.wrap (((k+1:Nat):Int) - 1)=(k:Int):=by rw[IntKind.wrap_i64];omega
 clear hk hn;generalize ((k+1:Nat):Int)=z at*;go_enter Tryz.func48,Tryz.ntmps48;go_wp2;go_ret;exact⟨rfl,rfl⟩
end Go.Proofs.YtpkenfnmkpmapaaGreat.Em
