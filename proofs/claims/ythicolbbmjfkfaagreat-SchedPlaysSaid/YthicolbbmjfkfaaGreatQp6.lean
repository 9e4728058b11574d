import Derived.Test.YthicolbbmjfkfaaGreatQp4
namespace Go.Proofs.YthicolbbmjfkfaaGreat.Em
open Go.ChangeMaps Go.ChangeShapes Go.WideShapes Go.ChangeAt Go.RowKit En
set_option linter.unusedVariables false
set_option linter.unusedSimpArgs false
set_option maxRecDepth 100000
set_option maxHeartbeats 1600000
theorem update_run {A:Book} {w:World} {s:Nat} {t:Txn} (hb:w.heap[A.bm s]? =some (.map (mapEs A s t).toArray t.cells.length)) (key b:Nat) (hx:t.cell key=none):
 (Instr.mapUpdate 116 (.map (some (A.bm s))) (zi (key:Int)) (ptr b)).run Tryz.prog w=.ok () (setBlock w (A.bm s) (.map (mapEs A s t++[(⟨i64 key,ptr b,t.cells.length⟩:MapEntry)]).toArray (t.cells.length+1))):=by
 have hck:∀ e,(Instr.checkKey e 10000 3 (zi (key:Int))).run Tryz.prog w=.ok () w:=by
  intro e;unfold Instr.checkKey;simp[run_underlying Tryz.underlying3]
 rw[mapEs_ent] at hb ⊢
 rcases findNow_ent (A.bx s) key (t.cells.reverse.zipIdx.map fun p=>(p.1.1,p.2)) 0 with ⟨h1,h2⟩|⟨j,h1,h2⟩
 · clear h2 hx
   generalize (t.cells.reverse.zipIdx.map fun p=>(p.1.1,p.2)).map (ent (A.bx s))=es at*;simp[Instr.mapUpdate,run_underlying Tryz.underlying116,run_underlying Tryz.underlying3,MapKept.run_getObj_map hb,hck,Instr.findKey,h1,MapKept.run_setObj_map _ hb,Result.andThen,setBlock]
 · have h3:=(cell_keys t key).1 h2
   rw[hx] at h3
   cases h3
theorem wpList_update {P:Program} {w w':World} {ops:Array Oper} {rest:List Oper} {o:Oper} {a:Act} {Q:Exit→Act→World→Prop}
 (hg:o.guard=none) (m x v:Operand) (t:TypeId) (hop:o.op=Op.mapUpdate t m x v) (hrun:(Instr.mapUpdate t (a.eval m) (a.eval x) (a.eval v)).run P w=.ok () w')
 (hK:wpList P ops Q rest (a.put o.dst undef) w'):wpList P ops Q (o::rest) a w:=by
 refine wpList_plain hg fun K' hK'=>?_
 unfold Oper.wp;simp[execOp,hop,hrun,Result.andThen];exact hK' _ _ hK
theorem grown_setBlock {w:World} {b:Nat} {es:Array MapEntry} {clock:Nat} (hb:w.heap[b]? =some (.map es clock)) (o:Obj):w.grownBy (setBlock w b o) (some b):=
 ⟨rfl,rfl,rfl,by simp[setBlock],fun i _ hi=>heap_setBlock_other hb _ (fun e=>hi (by rw[e]))⟩
def Took (A:Book) (w:World) (s key:Nat) (σ':St):Ending→World→Prop:=fun e w'=>∃ b,e=.returned (ptr b)∧∃ A',Rep A' σ' w'∧Grow A.L w A'.L w'∧Stay A A' s∧A'.bx s key=b∧A'.vpairs=A.vpairs
theorem take_tells {A:Book} {σ:St} {w:World} (hR:Rep A σ w) (s:Nat) (t:Txn) (ht:σ.txns.getD s none=some t) (key old:Nat) (hx:t.cell key=none) (hk:t.keys.length<1000000):
 Calls Tryz.prog 177 #[.pointer (some ⟨A.bt s,0,none⟩),zi (key:Int),zu (old:Int)] w (Took A w s key (σ.takeKey s key ⟨0,old,false⟩)):=by
 have hb:=hR.map ht;generalize hwa:w.alloc (.cells #[zu 0,zu (old:Int),.bool false] 225)=wa;have hbl:Below w.heap.size w wa:=by rw[←hwa];exact (Below.refl _ _).alloc (Nat.le_refl _) _
 have hblk:wa.heap[w.heap.size]? =some (.cells (celCs ⟨0,old,false⟩).toArray 225):=by rw[←hwa];exact heap_alloc_new w _
 have ra:=hR.below hbl;have t7:=ra.txn ht 7 (v:=.map (some (A.bm s))) rfl;have hb1:=ra.map ht;have hup:=update_run hb1 key w.heap.size hx;generalize hwb:setBlock wa (A.bm s) (.map (mapEs A s t++[(⟨i64 key,ptr w.heap.size,t.cells.length⟩:MapEntry)]).toArray (t.cells.length+1))=wb at hup;obtain⟨rb,gb⟩:=hR.newCel hbl ht hx (Nat.le_refl _) ⟨0,old,false⟩ hblk (w2:=wb) (by rw[←hwb];exact grown_setBlock hb1 _) (by rw[←hwb];exact heap_setBlock_same hb1 _) (by rw[←hwb];simp[setBlock]);have ht2:(σ.setT s {t with cells:=(key,⟨0,old,false⟩)::t.cells}).txns.getD s none=some {t with cells:=(key,⟨0,old,false⟩)::t.cells}:=by rw[getT_set (lt_of_txn ht),if_pos rfl]
 have t6:wb.cell? ⟨A.bt s,6,none⟩=some (A.vkeys s):=rb.txn ht2 6 rfl;have z6:=rb.txnF ht2 6;have rc:=rb.alloc (.cells #[zi (key:Int)] 3);have hown:=(rc.mem.all (.keys s))
 rw[mem_keys ht2] at hown;have ho:(wb.alloc (.cells #[zi (key:Int)] 3)).ownsRow 0 3 1 (A.vkeys s) t.keys.length (t.keys.map i64):=hown.1;obtain⟨av,capv,hv,_⟩:=Ow.own_form ho;have e:σ.takeKey s key ⟨0,old,false⟩=(σ.setT s {t with cells:=(key,⟨0,old,false⟩)::t.cells}).setT s {t with cells:=(key,⟨0,old,false⟩)::t.cells,keys:=t.keys++[key]}:=by
  unfold St.takeKey St.setT;rw[txn_get ht];simp
 rw[e]
 have FN : Hid (∀ v' w2, w2.ownsRow 0 3 1 v' (t.keys.length + 1) (t.keys.map i64 ++ [zi (key : Int)]) → (wb.alloc (.cells #[zi (key : Int)] 3)).grownBy w2 (A.vkeys s).ownBlock → (v'.ownBlock = (A.vkeys s).ownBlock ∨ ∀ g, v'.ownBlock = some g → (wb.alloc (.cells #[zi (key : Int)] 3)).heap.size ≤ g) →
     (∃ A',Rep A' ((σ.setT s {t with cells:=(key,⟨0,old,false⟩)::t.cells}).setT s {t with cells:=(key,⟨0,old,false⟩)::t.cells,keys:=t.keys++[key]}) (w2.setCell ⟨A.bt s,6,none⟩ v')∧Grow A.L w A'.L (w2.setCell ⟨A.bt s,6,none⟩ v')∧Stay A A' s∧A'.bx s key=w.heap.size∧A'.vpairs=A.vpairs)∧w2.cell? ⟨A.bt s,6,none⟩=some (A.vkeys s)∧w2.frozen? ⟨A.bt s,6,none⟩=false):=by
  intro v' w2 q1 q2 q3;obtain⟨k1,k2,k3,k4⟩:=rc.keysOn ht2 (t.keys++[key]) v' q2 (by simpa using q1) q3;refine⟨⟨_,k1,(gb.trans (Grow.alloc _ _ _)).trans k2,⟨rfl,rfl,rfl,rfl,rfl,rfl,rfl,rfl,rfl,rfl,rfl,fun k hk'=>?_,fun _ _=>rfl⟩,?_,rfl⟩,k3,k4⟩
  · funext j
    show (if k=s∧j=key then w.heap.size else A.bx k j)=A.bx k j;rw[if_neg (fun h=>hk' h.1)]
  · show (if s=s∧key=key then w.heap.size else A.bx s key)=w.heap.size
    rw[if_pos ⟨rfl,rfl⟩]
 have HUP:=zH hup;rw[←hwa] at HUP t7;rw[hv] at t6 ho FN;have HO:=zH ho;have z6':wb.frozen? ⟨A.bt s,6,none⟩=false:=z6;have HZ:=zH (show wb.heap.size=w.heap.size+1 by rw[←hwb,←hwa];simp[setBlock]);clear hR ht hb hbl hblk ra hb1 hup rb gb ht2 rc hown ho e hwb hwa hx z6;generalize hn:t.keys.length=n at*;have HN:=zH hk;clear hk hn;obtain⟨ii,hii,hz0,hz1,hz2⟩:=info_parts infoI;go_enter Tryz.func177,Tryz.ntmps177;go_wp2_with (first|(refine wpList_update rfl (.tmp 14) (.tmp 15) (.tmp 16) 116 rfl HUP.out ?_)|(refine Ow.wpList_append_to _ rfl (.tmp 21) (.tmp 23) 36 rfl 0 _ ii _ 1 8 Tryz.underlying36 hii hz0 hz1 hz2 rfl (by decide) (.slice av n capv) n (t.keys.map i64) rfl HO.out ⟨wb.heap.size,0,none⟩ 1 1 (by omega) [zi (key:Int)] rfl rfl (by intro j' u hu;exact Ow.new_row _ [zi (key:Int)] _ _ rfl j' u hu) (by intro u hu;obtain rfl:=List.mem_singleton.1 hu;rfl) (by have:=HN.out;unfold maxLen;omega) (by have:=HN.out;omega) (Nat.zero_le _) ?_;intro v' w4 q1 q2 q3;obtain⟨k1,k2,k3⟩:=FN.out v' w4 q1 q2 q3;obtain⟨a4,cap4,rfl,_⟩:=Ow.own_form q1;have K1:=zH k1;clear k1 q1 q2 q3));go_ret;exact⟨_,rfl,K1.out⟩
end Go.Proofs.YthicolbbmjfkfaaGreat.Em
namespace Go.Proofs.YthicolbbmjfkfaaGreat.Em
open Go.ChangeShapes Go.WideShapes Go.ChangeAt Go.RowKit En
set_option linter.unusedVariables false
set_option linter.unusedSimpArgs false
set_option maxRecDepth 100000
set_option maxHeartbeats 1600000
theorem own_at {w:World} {e:TypeId} {n size:Nat} {v:Value} {xs:List Value} (h:w.ownsRow 0 e size v n xs) {j:Nat} {u:Value} (hj:xs[j]? =some u):∃ g cap,v=.slice (some ⟨g,0,none⟩) n cap∧w.cell? ⟨g,j,none⟩=some u:=by
 have hc:=fun g hg=>h.cells (g:=g) hg
 rcases h.2 with ⟨rfl,h0⟩|⟨g,cap,cur,rfl,hb,hg,hnc,hcm,hcs,htake⟩
 · have h1:=h.1
   rw[h0] at h1;have:xs=[]:=by simpa using h1
   rw[this] at hj;simp at hj
 · refine⟨g,cap,rfl,?_⟩
   have:=hc g rfl j u hj;have hadd:(⟨g,0,none⟩:Addr).add j=⟨g,j,none⟩:=by unfold Addr.add;split<;>simp_all
   rw[hadd] at this;exact this
theorem readCs_get (l:List (Nat×Nat×Bool)) (i:Nat) (h:i<l.length):(readCs l)[3*i]? =some (i64 (l.getD i (0,0,false)).1)∧(readCs l)[3*i+1]? =some (u64 (l.getD i (0,0,false)).2.1)∧(readCs l)[3*i+2]? =some (.bool (l.getD i (0,0,false)).2.2):=by
 induction l generalizing i with
 |nil=>simp at h
 |cons x l ih=>
  cases i with
  |zero=>simp[readCs]
  |succ i=>
   have:=ih i (by simpa using h);simp only[readCs,List.flatMap_cons] at this ⊢;have e:∀ k,([i64 x.1,u64 x.2.1,.bool x.2.2]++List.flatMap (fun r=>[i64 r.1,u64 r.2.1,.bool r.2.2]) l)[3*(i+1)+k]? =(List.flatMap (fun r=>[i64 r.1,u64 r.2.1,.bool r.2.2]) l)[3*i+k]? :=by
    intro k;rw[List.getElem?_append_right (by simp;omega)]
    congr 1
    simp;omega
   have e0:=e 0;simp only[Nat.add_zero] at e0;rw[e0,e 1,e 2];exact this
theorem judge_step (t:Txn) (i:Nat) (h:i<t.reads.length) (hn:t.needs (t.reads.getD i (0,0,false))=false):judgeK t i=judgeK t (i+1):=by
 unfold judgeK;have e:t.reads.length - i=(t.reads.length - (i+1))+1:=by omega
 have k:t.need (t.reads.length - i) i=t.need (t.reads.length - (i+1)) (i+1):=by
  rw[e];show (if i<t.reads.length∧t.needs (t.reads.getD i (0,0,false))=false then _ else _)=_;rw[if_pos ⟨h,hn⟩]
 rw[k]
theorem need_stop (t:Txn) (n i:Nat) (h:¬ (i<t.reads.length∧t.needs (t.reads.getD i (0,0,false))=false)):t.need n i=i:=by
 cases n with
 |zero=>rfl
 |succ n=>
  show (if i<t.reads.length∧t.needs (t.reads.getD i (0,0,false))=false then _ else _)=_;rw[if_neg h]
theorem judge_end (t:Txn):judgeK t t.reads.length=waitK t 0:=by
 unfold judgeK;rw[need_stop _ _ _ (by omega),if_pos rfl]
theorem judge_find (t:Txn) (i:Nat) (h:i<t.reads.length) (hn:t.needs (t.reads.getD i (0,0,false))=true):judgeK t i=.start ⟨(t.reads.getD i (0,0,false)).1,t.end_,.judge i (t.reads.getD i (0,0,false)).2.1⟩:=by
 unfold judgeK;rw[need_stop _ _ _ (fun h=>by rw[hn] at h;exact absurd h.2 (by simp)),if_neg (by omega)]
theorem judge_any {A:Book} {σ:St} {w:World} (hR:Rep A σ w) (s:Nat) (t:Txn) (ht:σ.txns.getD s none=some t) (i0:Nat) (hi0:i0≤t.reads.length) (hrl:t.reads.length<1000000):
 Calls Tryz.prog 122 #[.pointer (some ⟨A.be,0,none⟩),.pointer (some ⟨A.bt s,0,none⟩),.pointer (some ⟨A.bc s,0,none⟩),zi (i0:Int)] w (Tells A w s (σ,judgeK t i0)):=by
 obtain⟨r4,g4,f0,f1,f2,f3⟩:=allocs4 hR #[.pointer (some ⟨A.be,0,none⟩)] 32 #[.pointer (some ⟨A.bt s,0,none⟩)] 100 #[.pointer (some ⟨A.bc s,0,none⟩)] 105 #[zi (i0:Int)] 3;have HR:=zH (zA r4 (zA g4 (zA f0 (zA f1 (zA f2 f3)))));have HT:=zH (zA ht (zA hi0 hrl));have HW:=zH hR;have hown:=hR.mem.all (.reads s);rw[mem_reads ht] at hown;obtain⟨av,capv,hv,_⟩:=Ow.own_form hown.1;have HV:=zH hv;clear hR ht hi0 hrl r4 g4 f0 f1 f2 f3 hown hv;go_enter Tryz.func122,Tryz.ntmps122;go_wp2_with fail
 go_loopw [10] (fun _ wr=>∃ i:Nat,i≤t.reads.length∧judgeK t i0=judgeK t i∧Rep A σ wr∧Grow A.L w A.L wr∧Fix A.L wr w.heap.size (.cells #[.pointer (some ⟨A.be,0,none⟩)] 32)∧Fix A.L wr (w.heap.size+1) (.cells #[.pointer (some ⟨A.bt s,0,none⟩)] 100)∧Fix A.L wr (w.heap.size+1+1) (.cells #[.pointer (some ⟨A.bc s,0,none⟩)] 105)∧Fix A.L wr (w.heap.size+1+1+1) (.cells #[zi (i:Int)] 3)) (fun _ wr=>match wr.cell? ⟨w.heap.size+1+1+1,0,none⟩ with|some (.int _ i)=>((t.reads.length:Int) - i).toNat|_=>0)
 case atStart=>
  obtain⟨r4,g4,f0,f1,f2,f3⟩:=HR.out;exact⟨i0,HT.out.2.1,rfl,r4,g4,f0,f1,f2,f3⟩
 case round=>
  obtain⟨i,hi,hj,r,g,f0,f1,f2,f3⟩:=hrel;have c0:=f0.cell 0 (v:=.pointer (some ⟨A.be,0,none⟩)) rfl;have c1:=f1.cell 0 (v:=.pointer (some ⟨A.bt s,0,none⟩)) rfl;have c2:=f2.cell 0 (v:=.pointer (some ⟨A.bc s,0,none⟩)) rfl;have c3:=f3.cell 0 (v:=zi (i:Int)) rfl;have t8:=r.txn HT.out.1 8 (v:=A.vreads s) rfl;have hbase:(wr.cell? ⟨w.heap.size+1+1+1,0,none⟩)=some (zi (i:Int)):=c3;rw[HV.out] at t8
  by_cases hlt:i<t.reads.length
  · have hown:=r.mem.all (.reads s)
    rw[mem_reads HT.out.1] at hown;obtain⟨e0,e1,e2⟩:=readCs_get t.reads i hlt;obtain⟨g0,cap0,hv0,k0⟩:=own_at hown.1 e0;obtain⟨g1,cap1,hv1,k1⟩:=own_at hown.1 e1;obtain⟨g2,cap2,hv2,k2⟩:=own_at hown.1 e2;rw[hv0] at hv1 hv2;obtain rfl:g0=g1:=by simp at hv1;exact hv1.1
    obtain rfl:g0=g2:=by simp at hv2;exact hv2.1
    rw[HV.out] at hv0;obtain⟨rfl,rfl⟩:av=some ⟨g0,0,none⟩∧capv=cap0:=by simpa using hv0
    have HK:Hid (∀ w',Rep A σ w'→Grow A.L wr A.L w'→w'.cell? ⟨w.heap.size+1,0,none⟩=some (.pointer (some ⟨A.bt s,0,none⟩))∧w'.cell? ⟨w.heap.size+1+1+1,0,none⟩=some (zi (i:Int))∧w'.cell? ⟨A.bt s,8,none⟩=some (.slice (some ⟨g0,0,none⟩) t.reads.length capv)∧w'.cell? ⟨g0,3*i,none⟩=some (zi ((t.reads.getD i (0,0,false)).1:Int))∧w'.cell? ⟨g0,3*i+1,none⟩=some (zu ((t.reads.getD i (0,0,false)).2.1:Int))∧w'.cell? ⟨g0,3*i+2,none⟩=some (.bool (t.reads.getD i (0,0,false)).2.2)):=by
     intro w' r' g';have hown':=r'.mem.all (.reads s);rw[mem_reads HT.out.1] at hown';obtain⟨_,_,hv0',k0'⟩:=own_at hown'.1 e0;obtain⟨_,_,hv1',k1'⟩:=own_at hown'.1 e1;obtain⟨_,_,hv2',k2'⟩:=own_at hown'.1 e2;rw[HV.out] at hv0' hv1' hv2';simp at hv0' hv1' hv2';rw[←hv0'.1] at k0';rw[←hv1'.1] at k1';rw[←hv2'.1] at k2';have t8':=r'.txn HT.out.1 8 (v:=A.vreads s) rfl;rw[HV.out] at t8';exact⟨(f1.grow g').cell 0 rfl,(f3.grow g').cell 0 rfl,t8',k0',k1',k2'⟩
    have HN:=zH (fun w' (q:Rep A σ w')=>needs_any q s t HT.out.1 (t.reads.getD i (0,0,false)).1 (t.reads.getD i (0,0,false)).2.1 (t.reads.getD i (0,0,false)).2.2);have HS:Hid (t.needs (t.reads.getD i (0,0,false))=false→judgeK t i=judgeK t (i+1)):=judge_step t i hlt;have HFI:Hid (t.needs (t.reads.getD i (0,0,false))=true→judgeK t i=.start ⟨(t.reads.getD i (0,0,false)).1,t.end_,.judge i (t.reads.getD i (0,0,false)).2.1⟩):=judge_find t i hlt;have HQ:=zH (zA hj (zA r (zA g (zA hlt (zA f0 (zA f1 (zA f2 f3)))))));have HRd:Hid (Rep A σ wr.drew):=r.drew;have HG:Hid (Grow A.L wr A.L wr.drew):=Grow.drew _ _;have b1:decide ((i:Int)<(t.reads.length:Int))=true:=by simpa using hlt
    have b2:decide (i<t.reads.length)=true:=by simpa using hlt
    have b3:((i:Int)<(t.reads.length:Int))=True:=by simpa using hlt
    have n1:IntKind.i64.wrap ((i:Int)+1)=(i:Int)+1:=by rw[IntKind.wrap_i64];have:=HT.out.2.2;omega
    rw[Nat.mul_comm 3] at k0 k1 k2 HK;clear hj r g hi f0 f1 f2 f3 hown e0 e1 e2 hv0 hv1 hv2;generalize hnb:t.needs (t.reads.getD i (0,0,false))=nb at*;generalize (t.reads.getD i (0,0,false)).1=key at*;generalize (t.reads.getD i (0,0,false)).2.1=link at*;generalize (t.reads.getD i (0,0,false)).2.2=got at*;clear hnb
    cases nb with
    |false=>
     clear HFI;go_wp2_with fail
     go_region_held3 (fun w'=>w'.cell? ⟨w.heap.size+1,0,none⟩=some (.pointer (some ⟨A.bt s,0,none⟩))∧w'.cell? ⟨w.heap.size+1+1+1,0,none⟩=some (zi (i:Int))∧w'.cell? ⟨A.bt s,8,none⟩=some (.slice (some ⟨g0,0,none⟩) t.reads.length capv)∧w'.cell? ⟨g0,i*3,none⟩=some (zi (key:Int))∧w'.cell? ⟨g0,i*3+1,none⟩=some (zu (link:Int))∧w'.cell? ⟨g0,i*3+2,none⟩=some (.bool got))
      (first|exact⟨c1,c3,t8,k0,k1,k2⟩|assumption|exact HK.out _ (by assumption) (by assumption))
      (first|(go_at_call 143;refine (HN.out _ HRd.out).mono ?_;rintro e w1 ⟨rfl,hb⟩;have q1:=HRd.out.below hb;have q2:=HG.out.trans (Grow.below (L:=A.L) hb)))
     obtain⟨hj,r,g,hlt,f0,f1,f2,f3⟩:=HQ.out;have F3:=f3.grow q2;have y3:=F3.cell 0 (v:=zi (i:Int)) rfl;have z3:=F3.frozen 0;obtain⟨r5,g5⟩:=HW.out.setNew q1 (g.trans q2) rfl rfl (a:=⟨w.heap.size+1+1+1,0,none⟩) (by simp;omega) F3.1 (zi ((i:Int)+1));have F0:=(f0.grow q2).setOther (a:=⟨w.heap.size+1+1+1,0,none⟩) (by simp<;>omega) (zi ((i:Int)+1));have F1:=(f1.grow q2).setOther (a:=⟨w.heap.size+1+1+1,0,none⟩) (by simp<;>omega) (zi ((i:Int)+1));have F2:=(f2.grow q2).setOther (a:=⟨w.heap.size+1+1+1,0,none⟩) (by simp<;>omega) (zi ((i:Int)+1));have HZ:=zH (zA r5 (zA g5 (zA F0 (zA F1 (zA F2 (F3.setSame (zi ((i:Int)+1))))))));have HB:=zH hbase;clear hj r g hlt f0 f1 f2 f3 F3 r5 g5 F0 F1 F2 hbase;go_wp2_with fail
     go_roundw
     case rel=>
      obtain⟨r5,g5,F0,F1,F2,F3⟩:=HZ.out;exact⟨i+1,by have:=HQ.out.2.2.2.1;omega,HQ.out.1.trans (HS.out trivial),r5,g5,F0,F1,F2,F3⟩
     case measure=>
      rw[HB.out,(HZ.out.2.2.2.2.2).cell 0 (v:=zi ((i:Int)+1)) rfl];have:=HQ.out.2.2.2.1;simp;omega
    |true=>
     clear HS;go_wp2_with fail
     go_region_held3 (fun w'=>w'.cell? ⟨w.heap.size+1,0,none⟩=some (.pointer (some ⟨A.bt s,0,none⟩))∧w'.cell? ⟨w.heap.size+1+1+1,0,none⟩=some (zi (i:Int))∧w'.cell? ⟨A.bt s,8,none⟩=some (.slice (some ⟨g0,0,none⟩) t.reads.length capv)∧w'.cell? ⟨g0,i*3,none⟩=some (zi (key:Int))∧w'.cell? ⟨g0,i*3+1,none⟩=some (zu (link:Int))∧w'.cell? ⟨g0,i*3+2,none⟩=some (.bool got))
      (first|exact⟨c1,c3,t8,k0,k1,k2⟩|assumption|exact HK.out _ (by assumption) (by assumption))
      (first|(go_at_call 143;refine (HN.out _ HRd.out).mono ?_;rintro e w1 ⟨rfl,hb⟩;have q1:=HRd.out.below hb;have q2:=HG.out.trans (Grow.below (L:=A.L) hb)))
     obtain⟨hj,r,g,hlt,f0,f1,f2,f3⟩:=HQ.out;have HX:Hid (∀ n w5,w1.drewN n=w5→Rep A σ w5∧Grow A.L w A.L w5∧Grow A.L wr A.L w5∧w5.cell? ⟨w.heap.size+1,0,none⟩=some (.pointer (some ⟨A.bt s,0,none⟩))∧w5.cell? ⟨w.heap.size+1+1+1,0,none⟩=some (zi (i:Int))∧w5.cell? ⟨A.bt s,8,none⟩=some (.slice (some ⟨g0,0,none⟩) t.reads.length capv)∧w5.cell? ⟨g0,i*3,none⟩=some (zi (key:Int))∧w5.cell? ⟨g0,i*3+1,none⟩=some (zu (link:Int))∧w5.cell? ⟨g0,i*3+2,none⟩=some (.bool got)):=by
      rintro n w5 rfl;obtain⟨x1,x2,x3,x4,x5,x6⟩:=HK.out _ (q1.drewN n) (q2.trans (Grow.drewN _ _ n));exact⟨q1.drewN n,(g.trans q2).trans (Grow.drewN _ _ n),q2.trans (Grow.drewN _ _ n),x1,x2,x3,x4,x5,x6⟩
     have d1:((i:Int)==(t.reads.length:Int))=false:=by simp;omega
     have d2:(i==t.reads.length)=false:=by simp;omega
     have d3:((i:Int)=(t.reads.length:Int))=False:=by simp;omega
     obtain⟨_,_,_,x1,x2,x3,_⟩:=HX.out 0 w1 rfl;have HP:=zH (zA q1 q2);clear hj r g hlt f0 f1 f2 f3 q1 q2 c0 c1 c2 c3 t8 k0 k1 k2 hbase;go_wp2_with fail
     go_quiet (fail)
     generalize hw5:w1.drewN _=w5;obtain⟨r5,g5,gr5,x1,x2,x3,x4,x5,x6⟩:=HX.out _ w5 hw5;obtain⟨y1,y2,y3,y4,y5,y6⟩:=HK.out (w5.alloc (.cells #[zi 0,zu 0,.bool false] 250)) (r5.alloc _) (gr5.trans (Grow.alloc _ _ _));have H5:=zH (zA r5 (zA g5 gr5));clear r5 g5 gr5 hw5;go_wp2_with fail
     go_region
     generalize hw6:(w5.alloc _).drew=w6;obtain⟨_,_,_,hlt,f0,f1,f2,f3⟩:=HQ.out;obtain⟨r7,g7,f4⟩:=allocs1 H5.out.1 #[zi (key:Int),zu (link:Int),.bool got] 250;have g56:Grow A.L w5 A.L w6:=by rw[←hw6];exact g7.trans (Grow.drew _ _)
     have r6:Rep A σ w6:=by rw[←hw6];exact r7.drew
     have F4:Fix A.L w6 w5.heap.size (.cells #[zi (key:Int),zu (link:Int),.bool got] 250):=by rw[←hw6];exact f4.grow (Grow.drew _ _)
     have gq:=(H5.out.2.2).trans g56;have F0:=f0.grow gq;have F1:=f1.grow gq;have F2:=f2.grow gq;have F3:=f3.grow gq;have y0:=F0.cell 0 (v:=.pointer (some ⟨A.be,0,none⟩)) rfl;have y1:=F1.cell 0 (v:=.pointer (some ⟨A.bt s,0,none⟩)) rfl;have y4:=F4.cell 0 (v:=zi (key:Int)) rfl;have yt:=r6.txn HT.out.1 4 (v:=zu (t.end_:Int)) rfl;have gd:=Grow.drew A.L w6;have hf:=find_any r6.drew s key t.end_ (.func (.func 145) #[] #[.pointer (some ⟨w5.heap.size,0,none⟩),.pointer (some ⟨w.heap.size,0,none⟩),.pointer (some ⟨w.heap.size+1,0,none⟩),.pointer (some ⟨w.heap.size+1+1,0,none⟩),.pointer (some ⟨w.heap.size+1+1+1,0,none⟩)]) (.judge i link) ⟨_,_,_,_,_,rfl,⟨_,_,_,F4.grow gd⟩,F0.box.grow gd,F1.box.grow gd,F2.box.grow gd,F3.box.grow gd⟩;have HE:=zH (zA hf ((H5.out.2.1.trans g56).trans gd));clear hlt f0 f1 f2 f3 r7 g7 f4 g56 r6 F4 gq F0 F1 F2 F3 gd hf hw6 x1 x2 x3 x4 x5 x6;go_wp2_with fail;refine wp_region_still_tail 9 (by kernel_rfl) (by kernel_rfl) ?_;simp only[zta,ztb,ztc,ztd]
     repeat still_step
     refine wpStill_nil ?_;change wpList _ _ _ _ _ w6.drew;generalize w6.drew=wd at*;go_wp2_with (go_at_call 114;refine HE.out.1.mono ?_;rintro e w2 ⟨A2,v,rfl,p1,p2,p3,p4⟩);go_ret;rw[HQ.out.1,HFI.out trivial];exact⟨A2,v,rfl,p1,HE.out.2.trans p2,p3,p4⟩
  · obtain rfl:i=t.reads.length:=by omega
    have HQ:=zH (zA hj (zA r g));have HA:Hid (∀ w',Rep A σ w'→Calls Tryz.prog 144 #[.pointer (some ⟨A.be,0,none⟩),.pointer (some ⟨A.bt s,0,none⟩),.pointer (some ⟨A.bc s,0,none⟩),zi 0] w' (Tells A w' s (σ,waitK t 0))):=fun w' q=>wait_any q s t HT.out.1 0
    have HJ:=zH (judge_end t);clear hj r g hi hlt f0 f1 f2 f3;generalize t.reads.length=n at*;have d1:decide ((n:Int)<(n:Int))=false:=by simp
    go_wp2_with fail
    go_quiet (fail)
    generalize hw5:wr.drewN _=w5;have c0:w5.cell? ⟨w.heap.size,0,none⟩=some (.pointer (some ⟨A.be,0,none⟩)):=by rw[←hw5];exact c0
    have c1:w5.cell? ⟨w.heap.size+1,0,none⟩=some (.pointer (some ⟨A.bt s,0,none⟩)):=by rw[←hw5];exact c1
    have c2:w5.cell? ⟨w.heap.size+1+1,0,none⟩=some (.pointer (some ⟨A.bc s,0,none⟩)):=by rw[←hw5];exact c2
    have c3:w5.cell? ⟨w.heap.size+1+1+1,0,none⟩=some (zi (n:Int)):=by rw[←hw5];exact c3
    have t8:w5.cell? ⟨A.bt s,8,none⟩=some (.slice av n capv):=by rw[←hw5];exact t8
    have r5:Rep A σ w5:=by rw[←hw5];exact HQ.out.2.1.drewN _
    have g5:Grow A.L w A.L w5:=by rw[←hw5];exact HQ.out.2.2.trans (Grow.drewN _ _ _)
    have H5:=zH (zA r5 g5);clear r5 g5 hw5;go_wp2_with fail
    go_quiet (fail)
    go_wp2_with (go_at_call 144;refine (HA.out _ (H5.out.1.drewN _)).mono ?_;rintro e w2 ⟨A2,v,rfl,p1,p2,p3,p4⟩);go_ret;rw[HQ.out.1,HJ.out];exact⟨A2,v,rfl,p1,(H5.out.2.trans (Grow.drewN _ _ _)).trans p2,p3,p4⟩
theorem index_any (w:World) (l:List Nat) (v:Value) (x:Nat) (ho:w.ownsRow 0 3 1 v l.length (l.map i64)) (hl:l.length<1000000):
 Calls Tryz.prog 234 #[v,zi (x:Int)] w fun e w'=>(∃ r:Int,e=.returned (zi r)∧(0≤r↔x∈l))∧w=w':=by
 obtain⟨av,capv,hv,_⟩:=Ow.own_form ho;have hat:∀ k (hk:k<l.length),∃ g,av=some ⟨g,0,none⟩∧w.cell? ⟨g,k,none⟩=some (zi (l[k]:Int)):=by
  intro k hk;obtain⟨g,cap,e,hc⟩:=own_at ho (j:=k) (u:=zi (l[k]:Int)) (by simp[hk]);rw[hv] at e;simp only[Value.slice.injEq] at e;exact⟨g,e.1,hc⟩
 subst hv;have HAT:=zH hat;have HLL:=zH hl;clear hat ho hl;go_enter Tryz.func234,Tryz.ntmps234;go_wp2
 go_loop [8] (fun i=>∃ k:Nat,k≤l.length∧i=zi (k:Int)∧x ∉ l.take k) (fun i=>l.length - (intOf i).toNat)
 case atStart=>exact⟨0,Nat.zero_le _,rfl,by simp⟩
 case round=>
  obtain⟨k,hk,rfl,hnot⟩:=hrel
  by_cases hlt:k<l.length
  · obtain⟨g,rfl,hc⟩:=HAT.out k hlt
    have ht:l.take (k+1)=l.take k++[l[k]]:=by rw[List.take_succ_eq_append_getElem hlt]
    have hmem:l[k]∈l:=List.getElem_mem hlt;have HT:=zH (zA ht (zA hnot hmem));have b1:(k:Int)<(l.length:Int):=by omega
    have b0:(0:Int)≤(k:Int):=by omega
    have n1:IntKind.i64.wrap ((k:Int)+1)=(k:Int)+1:=by have:=HLL.out;rw[IntKind.wrap_i64];omega
    have HLT:=zH hlt;clear ht hnot hk hmem;generalize l[k]=y at*
    by_cases hy:x=y
    · have HY:=zH hy
      obtain⟨fa1,fa2,fa3,fa4,fa5⟩:=zeT (x:=x) (c:=y) (ci:=(y:Int)) (by omega);clear hy;go_wp2;go_ret;exact⟨⟨_,rfl,by constructor<;>intro _<;>first|(rw[HY.out];exact HT.out.2.2)|omega⟩,rfl⟩
    · have HY:=zH hy
      obtain⟨fa1,fa2,fa3,fa4,fa5⟩:=zeF (x:=x) (c:=y) (ci:=(y:Int)) (by omega);clear hy;go_wp2
      go_round
      case rel=>exact⟨k+1,HLT.out,by first|rfl|go_num,by rw[HT.out.1];intro h;rcases List.mem_append.1 h with h|h;exact HT.out.2.1 h;exact HY.out (List.mem_singleton.1 h)⟩
      case measure=>have:=HLT.out;simp[intOf];omega
  · have hx:x ∉ l:=by rw[List.take_of_length_le (by omega)] at hnot;exact hnot
    have HX:=zH hx;obtain rfl:k=l.length:=by omega
    clear hlt hnot hk hx;go_wp2;go_ret;exact⟨⟨_,rfl,by constructor;intro h;exact absurd h (by decide);intro h;exact absurd h HX.out⟩,rfl⟩
theorem contains_any (w:World) (l:List Nat) (v:Value) (x:Nat) (ho:w.ownsRow 0 3 1 v l.length (l.map i64)) (hl:l.length<1000000):
 Calls Tryz.prog 233 #[v,zi (x:Int)] w fun e w'=>e=.returned (.bool (decide (x∈l)))∧w=w':=by
 have HI:=zH (index_any w l v x ho hl);clear ho hl;go_enter Tryz.func233,Tryz.ntmps233;go_wp2_with (go_at_call 234;refine HI.out.mono ?_;rintro e w' ⟨⟨r,rfl,hr⟩,rfl⟩);go_ret;refine⟨?_,rfl⟩;have e:decide ((0:Int)≤r)=decide (x∈l):=by rw[decide_eq_decide];exact hr
 first|(rw[←e];rfl)|(simp[hr];done)|(rw[show decide (r≥0)=decide (x∈l) from e])
theorem Does.trans2 {A:Book} {w w1:World} {s:Nat} {σ1 σ2:St} {v:Value} {e:Ending} {w':World} {A1:Book} (g1:Grow A.L w A1.L w1) (s1:Stay A A1 s) (b1:A1.bx=A.bx) (p1:A1.vpairs=A.vpairs) (h:Does A1 w1 s σ2 v e w'):Does A w s σ2 v e w':=
 let ⟨e1,A2,r,g,st,bx,vp⟩:=h;⟨e1,A2,r,g1.trans g,s1.trans st,bx.trans b1,vp.trans p1⟩
theorem bind_any {A:Book} {σ:St} {w:World} (hR:Rep A σ w) (s:Nat) (t:Txn) (ht:σ.txns.getD s none=some t) (tq:Nat) (hto:tq≤65535) (hn:t.bonds.length<1000000) (htl:σ.tale.length<1000000):
 Calls Tryz.prog 224 #[.pointer (some ⟨A.be,0,none⟩),.pointer (some ⟨A.bt s,0,none⟩),zi (tq:Int)] w (Does A w s (σ.bind s tq) (.tuple #[])):=by
 have c9:w.cell? ⟨A.bt s,9,none⟩=some (A.vbonds s):=hR.txn ht 9 rfl;have z9:=hR.txnF ht 9;have hown0:=hR.mem.all (.bonds s);rw[mem_bonds ht] at hown0;obtain⟨av,capv,hv,_⟩:=Ow.own_form hown0.1;have HC:=zH (contains_any w t.bonds _ tq hown0.1 hn)
 by_cases hm:tq∈t.bonds
 · have hst:σ.bind s tq=σ:=by unfold St.bind;rw[txn_get ht,if_pos hm]
   rw[hst];have hd:decide (tq∈t.bonds)=true:=by simpa using hm
   rw[hd,hv] at HC;rw[hv] at c9;have HR:=zH hR;clear hR ht hn htl hm hst hd hown0 hto hv;generalize t.bonds.length=n at*;go_enter Tryz.func224,Tryz.ntmps224;go_wp2_with (go_at_call 233;refine HC.out.mono ?_;rintro e w' ⟨rfl,rfl⟩)
   go_end0
   exact⟨rfl,A,HR.out,Grow.refl _ _,Stay.refl _ _,rfl,rfl⟩
 · have hd:decide (tq∈t.bonds)=false:=by simpa using hm
   rw[hd,hv] at HC;have hst:σ.bind s tq=(σ.setT s {t with bonds:=t.bonds++[tq]}).event {kind:=4,t:=t.id,n:=tq}:=by unfold St.bind;rw[txn_get ht,if_neg hm]
   rw[hst];have hA:=hR.alloc (.cells #[zi (tq:Int)] 3);have hown:=hA.mem.all (.bonds s);rw[mem_bonds ht] at hown;have ho:(w.alloc (.cells #[zi (tq:Int)] 3)).ownsRow 0 3 1 (A.vbonds s) t.bonds.length (t.bonds.map i64):=hown.1;have n1:IntKind.u64.wrap (tq:Int)=(tq:Int):=by rw[IntKind.wrap_u64];omega
   have FN : Hid (∀ v' w2, w2.ownsRow 0 3 1 v' (t.bonds.length + 1) (t.bonds.map i64 ++ [zi (tq : Int)]) → (w.alloc (.cells #[zi (tq : Int)] 3)).grownBy w2 (A.vbonds s).ownBlock → (v'.ownBlock = (A.vbonds s).ownBlock ∨ ∀ g, v'.ownBlock = some g → (w.alloc (.cells #[zi (tq : Int)] 3)).heap.size ≤ g) →
       (w2.setCell ⟨A.bt s,9,none⟩ v').cell? ⟨A.bt s,0,none⟩=some (zi (t.id:Int))∧Calls Tryz.prog 50 #[.pointer (some ⟨A.be,0,none⟩),.agg #[zi 4,zi (t.id:Int),zu (tq:Int),zi 0,zi 0,zi 0,zi 0,zi 0,zi 0,.slice none 0 0,zi 0,zi 0]] (w2.setCell ⟨A.bt s,9,none⟩ v') (Does A w s ((σ.setT s {t with bonds:=t.bonds++[tq]}).event {kind:=4,t:=t.id,n:=tq}) (.tuple #[]))∧w2.cell? ⟨A.bt s,9,none⟩=some (A.vbonds s)∧w2.frozen? ⟨A.bt s,9,none⟩=false):=by
    intro v' w2 q1 q2 q3;obtain⟨k1,k2,k3,k4⟩:=hA.bondsOn ht (t.bonds++[tq]) v' q2 (by simpa using q1) q3;have ht2:(σ.setT s {t with bonds:=t.bonds++[tq]}).txns.getD s none=some {t with bonds:=t.bonds++[tq]}:=by rw[getT_set (lt_of_txn ht),if_pos rfl]
    refine⟨k1.txn ht2 0 rfl,?_,k3,k4⟩;have he:=event_any k1 s {kind:=4,t:=t.id,n:=tq} 4 t.id tq 0 0 0 0 0 0 0 0 none 0 0 rfl (PRow.nil _ _) htl;refine he.mono fun e w' h=>?_
    exact Does.trans2 (σ1:=σ) ((Grow.alloc A.L w _).trans k2) ⟨rfl,rfl,rfl,rfl,rfl,rfl,rfl,rfl,rfl,rfl,rfl,fun _ _=>rfl,fun _ _=>rfl⟩ rfl rfl h
   rw[hv] at c9 ho FN;have HO:=zH ho;clear hR ht htl hm hst hd hown0 hto hv hA hown ho;generalize hn':t.bonds.length=n at*;have HN:=zH hn;clear hn hn';obtain⟨ii,hii,hz0,hz1,hz2⟩:=info_parts infoI;go_enter Tryz.func224,Tryz.ntmps224;go_wp2_with (first|(go_at_call 233;refine HC.out.mono ?_;rintro e w' ⟨rfl,rfl⟩)|(refine Ow.wpList_append_to _ rfl (.tmp 17) (.tmp 19) 36 rfl 0 _ ii _ 1 8 Tryz.underlying36 hii hz0 hz1 hz2 rfl (by decide) (.slice av n capv) n (t.bonds.map i64) rfl HO.out ⟨w.heap.size,0,none⟩ 1 1 (by omega) [zi (tq:Int)] rfl rfl (by intro j' u hu;exact Ow.new_row _ [zi (tq:Int)] _ _ rfl j' u hu) (by intro u hu;obtain rfl:=List.mem_singleton.1 hu;rfl) (by have:=HN.out;unfold maxLen;omega) (by have:=HN.out;omega) (Nat.zero_le _) ?_;intro v' w4 q1 q2 q3;obtain⟨k1,k2,k3,k4⟩:=FN.out v' w4 q1 q2 q3;obtain⟨a4,cap4,rfl,_⟩:=Ow.own_form q1;have K1:=zH k2;clear k2 q1 q2 q3)|(go_at_call 50;refine K1.out.mono ?_;rintro e w2 hd2;obtain⟨rfl,hd3⟩:=id hd2))
   go_end0
   exact⟨rfl,hd3⟩
theorem PRow.labs {L L':Lab} {w:World} {v:Value} {xs:List Value} (h:PRow L w v xs) {b:Nat} (hL:∀ g,g≠b→L' g=L g) (hb:∀ cs,w.heap[b]? ≠some (.cells cs 152)):PRow L' w v xs:=by
 obtain⟨⟨ad,n,cap,rfl,e2,e3,e4,e5⟩,h2⟩:=h;refine⟨⟨ad,n,cap,rfl,e2,e3,e4,?_⟩,h2⟩
 rcases e5 with h0|⟨g,off,rfl,e7,e8,e9⟩
 · exact .inl h0
 · rcases h2 g off n cap rfl with h0|⟨cs,hc⟩
   · exact .inl h0
   · refine .inr ⟨g,off,rfl,?_,e8,e9⟩
     rw[hL g (by rintro rfl;exact hb _ hc)];exact e7
theorem Evs.labs {L L':Lab} {w:World} {b:Nat} (hL:∀ g,g≠b→L' g=L g) (hb:∀ cs,w.heap[b]? ≠some (.cells cs 152)):∀ {l:List Ev} {xs:List Value},Evs L w l xs→Evs L' w l xs
 |[],_,h=>h
 |_::_,_,⟨vp,ys,h1,h2,h3⟩=>⟨vp,ys,h1,h2.labs hL hb,Evs.labs hL hb h3⟩
theorem Evs.lab {L:Lab} {w:World} {b:Nat} {cs:Array Value} {T:TypeId} {l:List Ev} {xs:List Value} (h:Evs L w l xs) (he:w.heap[b]? =some (.cells cs T)) (hT:T≠152) (r:Role):Evs (lab1 L b r) w l xs:=
 h.labs (fun g hg=>lab1_other hg) (fun cs' hc=>by rw[he] at hc;simp at hc;exact hT hc.2)
theorem Evs.labMap {L:Lab} {w:World} {b:Nat} {es:Array MapEntry} {k:Nat} {l:List Ev} {xs:List Value} (h:Evs L w l xs) (he:w.heap[b]? =some (.map es k)) (r:Role):Evs (lab1 L b r) w l xs:=
 h.labs (fun g hg=>lab1_other hg) (fun cs' hc=>by rw[he] at hc;simp at hc)
theorem Rep.adoptTxn {A:Book} {σ:St} {w w1:World} (h:Rep A σ w1) (g0:Grow A.L w A.L w1) {s b m:Nat} (hfb:A.L b=none) (hfm:A.L m=none) (hs:s<8) (hb:w.heap.size≤b) (hm:w.heap.size≤m) (hbm:b≠m) (t:Txn) (h1:t.keys=[]) (h2:t.cells=[]) (h3:t.reads=[]) (h4:t.bonds=[])
 (he:w1.heap[b]? =some (.cells (txnCs (A.newTxn s b m) s t).toArray 131)) (hmap:w1.heap[m]? =some (.map #[] 0)) (hn:σ.txns.getD s none=none):
 Rep (A.newTxn s b m) (σ.setT s t) (w1.setCell ⟨A.be,5+s,none⟩ (.pointer (some ⟨b,0,none⟩)))∧Grow A.L w (A.newTxn s b m).L (w1.setCell ⟨A.be,5+s,none⟩ (.pointer (some ⟨b,0,none⟩))):=by
 have hlt:b<w1.heap.size:=lt_of he;have hltm:m<w1.heap.size:=lt_of hmap;have n8:=h.n8;have hn2:=hn;rw[List.getD_eq_getElem?_getD] at hn2;have k1:=h.mem.adopt (.txn s) hfb (.obj b (txnCs (A.newTxn s b m) s t) 131) ⟨lab1_same _ _ _,he⟩ hlt;have k2:=k1.adopt (.map s) (b:=m) ((lab1_other (Ne.symm hbm)).trans hfm) (.map m [] 0) ⟨lab1_same _ _ _,hmap⟩ hltm;have hE:(updE (updE (memOf A σ) (.txn s) (.obj b (txnCs (A.newTxn s b m) s t) 131)) (.map s) (.map m [] 0)) .eng=.obj A.be (engCs A σ) 111:=rfl;have k3:=k2.put .eng hE (5+s) (.pointer (some ⟨b,0,none⟩));have g:Grow A.L w (A.newTxn s b m).L (w1.setCell ⟨A.be,5+s,none⟩ (.pointer (some ⟨b,0,none⟩))):=
  ((g0.lab1 hb _).lab1 hm _).trans (k2.grow_set hE (5+s) _)
 have k4 : Holds (A.newTxn s b m).L (w1.setCell ⟨A.be, 5 + s, none⟩ (.pointer (some ⟨b, 0, none⟩))) (fun q => match q with
     |.keys k=>if k=s then .own (.slice none 0 0) 3 1 0 [] else memOf A σ (.keys k)
     |.reads k=>if k=s then .own (.slice none 0 0) 250 3 0 [] else memOf A σ (.reads k)
     |.bonds k=>if k=s then .own (.slice none 0 0) 3 1 0 [] else memOf A σ (.bonds k)
     |q=>updE (updE (updE (memOf A σ) (.txn s) (.obj b (txnCs (A.newTxn s b m) s t) 131)) (.map s) (.map m [] 0)) .eng (.obj A.be ((engCs A σ).set (5+s) (.pointer (some ⟨b,0,none⟩))) 111) q):=by
  refine⟨fun q=>?_,k3.fresh⟩;have k:=k3.all q
  cases q<;>first|exact k|skip
  all_goals
   rename_i j
   by_cases hj:j=s
   · subst hj
     simp only[if_pos];exact⟨World.ownsRow_nil _ 0 _ _,fun g hg=>by cases hg⟩
   · simp only[if_neg hj]
     simp[updE] at k;exact k
 refine⟨⟨k4.of_eq fun q=>?_,((h.ev.lab he (by decide) (.txn s)).labMap hmap (.map s)).grow (k2.grow_set hE (5+s) _),h.sl,h.nw,h.nt,h.nv,by simpa [St.setT] using h.n8,h.nc⟩,g⟩;have gt:∀ k,(σ.setT s t).txns.getD k none=if k=s then some t else σ.txns.getD k none:=fun k=>getT_set (by omega) t k
 have tp:∀ k,(A.newTxn s b m).tp (σ.setT s t) k=if k=s then .pointer (some ⟨b,0,none⟩) else A.tp σ k:=by
  intro k;unfold Book.tp;rw[gt];by_cases hk:k=s
  · subst hk;simp[Book.newTxn]
  · simp[hk,Book.newTxn]
 cases hq:q.tx with
 |none=>
  cases q<;>first|rfl|(simp[Role.tx] at hq;done)|skip
  simp only[updE,if_pos,memOf,engCs,tp]
  match s,hs with
  |0,_|1,_|2,_|3,_|4,_|5,_|6,_|7,_=>rfl
 |some k=>
  rw[mem_tx _ _ hq,gt]
  by_cases hk:k=s
  · subst hk
    rw[if_pos rfl]
    cases q<;>simp[Role.tx] at hq<;>subst hq<;>simp[txEntry,updE,Book.newTxn,upF,h1,h2,h3,h4,mapEs,readCs,Txn.cell,memOf,hn2]
  · rw[if_neg hk,←mem_tx _ σ hq]
    have:=mem_butTx (A:=A) (A':={A.newTxn s b m with bt:=A.bt}) (s:=s) ⟨rfl,rfl,rfl,rfl,rfl,rfl,rfl,rfl,rfl,rfl,rfl,rfl,rfl,rfl,rfl,rfl,rfl,fun k hk=>if_neg hk,fun _ _=>rfl,fun k hk=>upF_other _ _ hk,fun k hk=>upF_other _ _ hk,fun k hk=>upF_other _ _ hk,fun k hk=>if_neg hk,fun k hk=>if_neg hk⟩ σ (q:=q) (by rw[hq];simpa using hk);have e2:memOf (A.newTxn s b m) σ q=memOf {A.newTxn s b m with bt:=A.bt} σ q:=by
     cases q<;>simp[Role.tx] at hq<;>subst hq<;>simp[memOf,Book.newTxn,hk,txnCs,mapEs]
    rw[e2,this]
    cases q<;>simp[Role.tx] at hq<;>subst hq<;>simp[updE,hk]
end Go.Proofs.YthicolbbmjfkfaaGreat.Em
