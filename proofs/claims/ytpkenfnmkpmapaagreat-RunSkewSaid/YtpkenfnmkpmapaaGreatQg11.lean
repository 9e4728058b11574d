import Derived.Test.YtpkenfnmkpmapaaGreatQg8
import Derived.Test.YtpkenfnmkpmapaaGreatQg7
namespace Go.Proofs.YtpkenfnmkpmapaaGreat.Em
open Go.ChangeMaps Go.ChangeShapes Go.WideShapes Go.ChangeAt Go.RowKit En
set_option linter.unusedVariables false
set_option linter.unusedSimpArgs false
set_option maxRecDepth 100000
set_option maxHeartbeats 1600000
theorem update_run {A:Book} {w:World} {s:Nat} {t:Txn} (hb:w.heap[A.bm s]? =some (.map (mapEs A s t).toArray t.cells.length)) (key b:Nat) (hx:t.cell key=none):
 (Instr.mapUpdate 105 (.map (some (A.bm s))) (zi (key:Int)) (ptr b)).run Tryz.prog w=.ok () (setBlock w (A.bm s) (.map (mapEs A s t++[(⟨i64 key,ptr b,t.cells.length⟩:MapEntry)]).toArray (t.cells.length+1))):=by
 have hck:∀ e,(Instr.checkKey e 10000 3 (zi (key:Int))).run Tryz.prog w=.ok () w:=by
  intro e;unfold Instr.checkKey;simp[run_underlying Tryz.underlying3]
 rw[mapEs_ent] at hb ⊢
 rcases findNow_ent (A.bx s) key (t.cells.reverse.zipIdx.map fun p=>(p.1.1,p.2)) 0 with ⟨h1,h2⟩|⟨j,h1,h2⟩
 · clear h2 hx
   generalize (t.cells.reverse.zipIdx.map fun p=>(p.1.1,p.2)).map (ent (A.bx s))=es at*;simp[Instr.mapUpdate,run_underlying Tryz.underlying105,run_underlying Tryz.underlying3,MapKept.run_getObj_map hb,hck,Instr.findKey,h1,MapKept.run_setObj_map _ hb,Result.andThen,setBlock]
 · have h3:=(cell_keys t key).1 h2
   rw[hx] at h3
   cases h3
theorem wpList_update {P:Program} {w w':World} {ops:Array Oper} {rest:List Oper} {o:Oper} {a:Act} {Q:Exit→Act→World→Prop}
 (hg:o.guard=none) (m x v:Operand) (t:TypeId) (hop:o.op=Op.mapUpdate t m x v) (hrun:(Instr.mapUpdate t (a.eval m) (a.eval x) (a.eval v)).run P w=.ok () w')
 (hK:wpList P ops Q rest (a.put o.dst undef) w'):wpList P ops Q (o::rest) a w:=by
 refine wpList_plain hg fun K' hK'=>?_
 unfold Oper.wp;simp[execOp,hop,hrun,Result.andThen];exact hK' _ _ hK
theorem grown_setBlock {w:World} {b:Nat} {es:Array MapEntry} {clock:Nat} (hb:w.heap[b]? =some (.map es clock)) (o:Obj):w.grownBy (setBlock w b o) (some b):=
 ⟨rfl,rfl,rfl,by simp[setBlock],fun i _ hi=>heap_setBlock_other hb _ (fun e=>hi (by rw[e]))⟩
def Took (A:Book) (w:World) (s key:Nat) (σ':St):Ending→World→Prop:=fun e w'=>∃ b,e=.returned (ptr b)∧∃ A',Rep A' σ' w'∧Grow A.L w A'.L w'∧Stay A A' s∧A'.bx s key=b∧A'.vpairs=A.vpairs
theorem take_tells {A:Book} {σ:St} {w:World} (hR:Rep A σ w) (s:Nat) (t:Txn) (ht:σ.txns.getD s none=some t) (key old:Nat) (hx:t.cell key=none) (hk:t.keys.length<1000000):
 Calls Tryz.prog 167 #[.pointer (some ⟨A.bt s,0,none⟩),zi (key:Int),zu (old:Int)] w (Took A w s key (σ.takeKey s key ⟨0,old,false⟩)):=by
 have hb:=hR.map ht;generalize hwa:w.alloc (.cells #[zu 0,zu (old:Int),.bool false] 214)=wa;have hbl:Below w.heap.size w wa:=by rw[←hwa];exact (Below.refl _ _).alloc (Nat.le_refl _) _
 have hblk:wa.heap[w.heap.size]? =some (.cells (celCs ⟨0,old,false⟩).toArray 214):=by rw[←hwa];exact heap_alloc_new w _
 have ra:=hR.below hbl;have t7:=ra.txn ht 7 (v:=.map (some (A.bm s))) rfl;have hb1:=ra.map ht;have hup:=update_run hb1 key w.heap.size hx;generalize hwb:setBlock wa (A.bm s) (.map (mapEs A s t++[(⟨i64 key,ptr w.heap.size,t.cells.length⟩:MapEntry)]).toArray (t.cells.length+1))=wb at hup;obtain⟨rb,gb⟩:=hR.newCel hbl ht hx (Nat.le_refl _) ⟨0,old,false⟩ hblk (w2:=wb) (by rw[←hwb];exact grown_setBlock hb1 _) (by rw[←hwb];exact heap_setBlock_same hb1 _) (by rw[←hwb];simp[setBlock]);have ht2:(σ.setT s {t with cells:=(key,⟨0,old,false⟩)::t.cells}).txns.getD s none=some {t with cells:=(key,⟨0,old,false⟩)::t.cells}:=by rw[getT_set (lt_of_txn ht),if_pos rfl]
 have t6:wb.cell? ⟨A.bt s,6,none⟩=some (A.vkeys s):=rb.txn ht2 6 rfl;have z6:=rb.txnF ht2 6;have rc:=rb.alloc (.cells #[zi (key:Int)] 3);have hown:=(rc.mem.all (.keys s))
 rw[mem_keys ht2] at hown;have ho:(wb.alloc (.cells #[zi (key:Int)] 3)).ownsRow 0 3 1 (A.vkeys s) t.keys.length (t.keys.map i64):=hown.1;obtain⟨av,capv,hv,_⟩:=Ow.own_form ho;have e:σ.takeKey s key ⟨0,old,false⟩=(σ.setT s {t with cells:=(key,⟨0,old,false⟩)::t.cells}).setT s {t with cells:=(key,⟨0,old,false⟩)::t.cells,keys:=t.keys++[key]}:=by
  unfold St.takeKey St.setT;rw[txn_get ht];simp
 rw[e]
 have FN : Hid (∀ v' w2, w2.ownsRow 0 3 1 v' (t.keys.length + 1) (t.keys.map i64 ++ [zi (key : Int)]) → (wb.alloc (.cells #[zi (key : Int)] 3)).grownBy w2 (A.vkeys s).ownBlock → (v'.ownBlock = (A.vkeys s).ownBlock ∨ ∀ g, v'.ownBlock = some g → (wb.alloc (.cells #[zi (key : Int)] 3)).heap.size ≤ g) →
     (∃ A',Rep A' ((σ.setT s {t with cells:=(key,⟨0,old,false⟩)::t.cells}).setT s {t with cells:=(key,⟨0,old,false⟩)::t.cells,keys:=t.keys++[key]}) (w2.setCell ⟨A.bt s,6,none⟩ v')∧Grow A.L w A'.L (w2.setCell ⟨A.bt s,6,none⟩ v')∧Stay A A' s∧A'.bx s key=w.heap.size∧A'.vpairs=A.vpairs)∧w2.cell? ⟨A.bt s,6,none⟩=some (A.vkeys s)∧w2.frozen? ⟨A.bt s,6,none⟩=false):=by
  intro v' w2 q1 q2 q3;obtain⟨k1,k2,k3,k4⟩:=rc.keysOn ht2 (t.keys++[key]) v' q2 (by simpa using q1) q3;refine⟨⟨_,k1,(gb.trans (Grow.alloc _ _ _)).trans k2,⟨rfl,rfl,rfl,rfl,rfl,rfl,rfl,rfl,rfl,rfl,rfl,fun k hk'=>?_,fun _ _=>rfl⟩,?_,rfl⟩,k3,k4⟩
  · funext j
    show (if k=s∧j=key then w.heap.size else A.bx k j)=A.bx k j;rw[if_neg (fun h=>hk' h.1)]
  · show (if s=s∧key=key then w.heap.size else A.bx s key)=w.heap.size
    rw[if_pos ⟨rfl,rfl⟩]
 have HUP:=zH hup;rw[←hwa] at HUP t7;rw[hv] at t6 ho FN;have HO:=zH ho;have z6':wb.frozen? ⟨A.bt s,6,none⟩=false:=z6;have HZ:=zH (show wb.heap.size=w.heap.size+1 by rw[←hwb,←hwa];simp[setBlock]);clear hR ht hb hbl hblk ra hb1 hup rb gb ht2 rc hown ho e hwb hwa hx z6;generalize hn:t.keys.length=n at*;have HN:=zH hk;clear hk hn;obtain⟨ii,hii,hz0,hz1,hz2⟩:=info_parts infoI;go_enter Tryz.func167,Tryz.ntmps167;go_wp2_with (first|(refine wpList_update rfl (.tmp 14) (.tmp 15) (.tmp 16) 105 rfl HUP.out ?_)|(refine Ow.wpList_append_to _ rfl (.tmp 21) (.tmp 23) 23 rfl 0 _ ii _ 1 8 Tryz.underlying23 hii hz0 hz1 hz2 rfl (by decide) (.slice av n capv) n (t.keys.map i64) rfl HO.out ⟨wb.heap.size,0,none⟩ 1 1 (by omega) [zi (key:Int)] rfl rfl (by intro j' u hu;exact Ow.new_row _ [zi (key:Int)] _ _ rfl j' u hu) (by intro u hu;obtain rfl:=List.mem_singleton.1 hu;rfl) (by have:=HN.out;unfold maxLen;omega) (by have:=HN.out;omega) (Nat.zero_le _) ?_;intro v' w4 q1 q2 q3;obtain⟨k1,k2,k3⟩:=FN.out v' w4 q1 q2 q3;obtain⟨a4,cap4,rfl,_⟩:=Ow.own_form q1;have K1:=zH k1;clear k1 q1 q2 q3));go_ret;exact⟨_,rfl,K1.out⟩
end Go.Proofs.YtpkenfnmkpmapaaGreat.Em
namespace Go.Proofs.YtpkenfnmkpmapaaGreat.Em
open Go.ChangeShapes Go.WideShapes Go.ChangeAt Go.RowKit En
set_option linter.unusedVariables false
set_option linter.unusedSimpArgs false
set_option maxRecDepth 100000
set_option maxHeartbeats 1600000
variable {A:Book} {σ:St} {w:World}
theorem cas_i (h:Rep A σ w) (i o n:Nat) (z:Int) (hz:z=(i:Int)) (hi:i<σ.words.length) (hc:σ.count<4000000000000000000):
 Calls Tryz.prog 60 #[.pointer (some ⟨A.ba,0,none⟩),zi z,zu (o:Int),zu (n:Int)] w (Did A w (σ.cas i o n) (.bool (σ.word i==o))):=by subst hz;exact cas_any h i o n hi hc
theorem upd_cons (l:List (Nat×Cel)) (key:Nat) (x y:Cel) (h:l.lookup key=none):upd ((key,x)::l) key y=(key,y)::l:=by
 have h1:=lookup_none h;unfold upd;simp only[List.map_cons,if_true]
 congr 1
 conv=>rhs;rw[←List.map_id l]
 refine List.map_congr_left fun p hp=>?_
 simp[h1 p hp]
theorem takeKey_cell {σ:St} {s:Nat} {t:Txn} (ht:σ.txns.getD s none=some t) (key:Nat) (x y:Cel) (hx:t.cell key=none):
 (σ.takeKey s key x).setT s {(σ.takeKey s key x).t s with cells:=upd ((σ.takeKey s key x).t s).cells key y}=σ.takeKey s key y:=by
 have e:(σ.takeKey s key x).t s={t with cells:=(key,x)::t.cells,keys:=t.keys++[key]}:=by
  refine txn_get ?_;unfold St.takeKey;rw[txn_get ht,getT_set (lt_of_txn ht),if_pos rfl]
 rw[e];unfold St.takeKey St.setT;simp only[txn_get ht,List.set_set];rw[upd_cons _ _ _ _ hx]
theorem takeKey_txn {σ:St} {s:Nat} {t:Txn} (ht:σ.txns.getD s none=some t) (key:Nat) (x:Cel):(σ.takeKey s key x).txns.getD s none=some {t with cells:=(key,x)::t.cells,keys:=t.keys++[key]}:=by
 unfold St.takeKey;rw[txn_get ht,getT_set (lt_of_txn ht),if_pos rfl]
theorem k_pushC_miss (hR:Rep A σ w) (s:Nat) (t:Txn) (ht:σ.txns.getD s none=some t) (c:Cal) (hc:σ.calls.getD s none=some c) (link head:Nat) (hk:c.op.key<64) (hx:t.cell c.op.key=none) (hkl:t.keys.length<1000000) (hcnt:σ.count<4000000000000000000) (b0 b1 b2 b3 b4:Nat)
 (B0:Box A.L w b0 (.pointer (some ⟨A.be,0,none⟩))) (B1:Box A.L w b1 (.pointer (some ⟨A.bc s,0,none⟩))) (B2:Box A.L w b2 (zu (head:Int))) (B3:Box A.L w b3 (zu (link:Int))) (B4:Box A.L w b4 (.pointer (some ⟨A.bt s,0,none⟩))) (hm:σ.word (9+c.op.key)≠head):
 Calls Tryz.prog 182 #[.pointer (some ⟨b0,0,none⟩),.pointer (some ⟨b1,0,none⟩),.pointer (some ⟨b2,0,none⟩),.pointer (some ⟨b3,0,none⟩),.pointer (some ⟨b4,0,none⟩)] w (Ran A w s (σ.run s (.pushC link head))):=by
 have c0:=B0.cell;have c1:=B1.cell;have c2:=B2.cell;have c3:=B3.cell;have e2:=hR.z2;have k1:w.cell? ⟨A.bc s,1,none⟩=some (zi (c.op.key:Int)):=hR.call hc 1 rfl;have n1:IntKind.i64.wrap (9+(c.op.key:Int))=9+(c.op.key:Int):=by rw[IntKind.wrap_i64];omega
 have HL:=zH (cas_i hR.drew (9+c.op.key) head link (9+(c.op.key:Int)) (by omega) (by rw[hR.nw];omega) hcnt);have HG:=zG A.L w;have hrun:σ.run s (.pushC link head)=(σ.tick,some (.fresh link)):=by simp[St.run,call_get hc,St.cas,hm]
 rw[hrun];have hb:(σ.word (9+c.op.key)==head)=false:=by simpa using hm
 have hcs:σ.cas (9+c.op.key) head link=σ.tick:=if_neg hm;rw[hb,hcs] at HL;have HB:Hid (∀ w1,Rep A σ.tick w1→Grow A.L w A.L w1→Calls Tryz.prog 123 #[.pointer (some ⟨A.be,0,none⟩),.pointer (some ⟨A.bt s,0,none⟩),.pointer (some ⟨A.bc s,0,none⟩),zu (link:Int)] w1 (Tells A w1 s (σ.tick,.fresh link))∧w1.cell? ⟨b0,0,none⟩=some (.pointer (some ⟨A.be,0,none⟩))∧w1.cell? ⟨b1,0,none⟩=some (.pointer (some ⟨A.bc s,0,none⟩))∧w1.cell? ⟨b3,0,none⟩=some (zu (link:Int))∧w1.cell? ⟨b4,0,none⟩=some (.pointer (some ⟨A.bt s,0,none⟩))):=
  fun w1 q g=>⟨fresh_any q s link,(B0.grow g).cell,(B1.grow g).cell,(B3.grow g).cell,(B4.grow g).cell⟩
 clear hR ht hc hk hx hkl hcnt B0 B1 B2 B3 B4 hm hrun hb hcs;generalize c.op.key=key at*;go_enter Tryz.func182,Tryz.ntmps182;go_wp2_with fail;refine wp_region_still_tail 12 (by kernel_rfl) (by kernel_rfl) ?_;simp only[zta,ztb,ztc,ztd]
 repeat still_step
 refine wpStill_nil ?_;change wpList _ _ _ _ _ w.drew;generalize w.drew=wd at*;go_wp2_with (first|(go_at_call 60;refine HL.out.mono ?_;rintro e w1 ⟨rfl,q1,q2⟩;have g1:=HG.out.trans q2;obtain⟨hf,d0,d1,d3,d4⟩:=HB.out w1 q1 g1;have HQ:=zH (zA hf g1);clear q1 q2 g1 hf)|(go_at_call 123;refine HQ.out.1.mono ?_;rintro e w2 ⟨A2,v,rfl,p1,p2,p3,p4⟩));go_ret;exact⟨A2,v,rfl,p1,HQ.out.2.trans p2,p3,p4⟩
theorem k_pushC_hit (hR:Rep A σ w) (s:Nat) (t:Txn) (ht:σ.txns.getD s none=some t) (c:Cal) (hc:σ.calls.getD s none=some c) (link head:Nat) (hk:c.op.key<64) (hx:t.cell c.op.key=none) (hkl:t.keys.length<1000000) (hcnt:σ.count<4000000000000000000) (b0 b1 b2 b3 b4:Nat)
 (B0:Box A.L w b0 (.pointer (some ⟨A.be,0,none⟩))) (B1:Box A.L w b1 (.pointer (some ⟨A.bc s,0,none⟩))) (B2:Box A.L w b2 (zu (head:Int))) (B3:Box A.L w b3 (zu (link:Int))) (B4:Box A.L w b4 (.pointer (some ⟨A.bt s,0,none⟩))) (hm:σ.word (9+c.op.key)=head):
 Calls Tryz.prog 182 #[.pointer (some ⟨b0,0,none⟩),.pointer (some ⟨b1,0,none⟩),.pointer (some ⟨b2,0,none⟩),.pointer (some ⟨b3,0,none⟩),.pointer (some ⟨b4,0,none⟩)] w (Ran A w s (σ.run s (.pushC link head))):=by
 have c0:=B0.cell;have c1:=B1.cell;have c2:=B2.cell;have c3:=B3.cell;have e2:=hR.z2;have k1:w.cell? ⟨A.bc s,1,none⟩=some (zi (c.op.key:Int)):=hR.call hc 1 rfl;have n1:IntKind.i64.wrap (9+(c.op.key:Int))=9+(c.op.key:Int):=by rw[IntKind.wrap_i64];omega
 have HL:=zH (cas_i hR.drew (9+c.op.key) head link (9+(c.op.key:Int)) (by omega) (by rw[hR.nw];omega) hcnt);have HG:=zG A.L w;have hrun:σ.run s (.pushC link head)=((σ.put (9+c.op.key) link).takeKey s c.op.key ⟨link,0,true⟩,some (.fin {})):=by simp[St.run,call_get hc,St.cas,hm]
 rw[hrun];have hb:(σ.word (9+c.op.key)==head)=true:=by simpa using hm
 have hcs:σ.cas (9+c.op.key) head link=σ.put (9+c.op.key) link:=if_pos hm;rw[hb,hcs] at HL;have HB:Hid (∀ w1,Rep A (σ.put (9+c.op.key) link) w1→Grow A.L w A.L w1→Calls Tryz.prog 167 #[.pointer (some ⟨A.bt s,0,none⟩),zi (c.op.key:Int),zu 0] w1.drew (Took A w1.drew s c.op.key ((σ.put (9+c.op.key) link).takeKey s c.op.key ⟨0,0,false⟩))∧w1.cell? ⟨b1,0,none⟩=some (.pointer (some ⟨A.bc s,0,none⟩))∧w1.cell? ⟨b4,0,none⟩=some (.pointer (some ⟨A.bt s,0,none⟩))∧w1.cell? ⟨A.bc s,1,none⟩=some (zi (c.op.key:Int))):=
  fun w1 q g=>⟨take_tells q.drew s t ht c.op.key 0 hx hkl,(B1.grow g).cell,(B4.grow g).cell,q.call hc 1 rfl⟩
 have HE : Hid (∀ w1 w2 A1 b, Grow A.L w A.L w1 → Rep A1 ((σ.put (9 + c.op.key) link).takeKey s c.op.key ⟨0, 0, false⟩) w2 → Grow A.L w1 A1.L w2 → Stay A A1 s → A1.bx s c.op.key = b → A1.vpairs = A.vpairs →
     w2.cell? ⟨b,0,none⟩=some (zu 0)∧w2.frozen? ⟨b,0,none⟩=false∧w2.cell? ⟨b,2,none⟩=some (.bool false)∧w2.frozen? ⟨b,2,none⟩=false∧w2.cell? ⟨b3,0,none⟩=some (zu (link:Int))∧
     ((w2.setCell ⟨b,0,none⟩ (zu (link:Int))).setCell ⟨b,2,none⟩ (.bool true)).cell? ⟨b0,0,none⟩=some (.pointer (some ⟨A.be,0,none⟩))∧((w2.setCell ⟨b,0,none⟩ (zu (link:Int))).setCell ⟨b,2,none⟩ (.bool true)).cell? ⟨b1,0,none⟩=some (.pointer (some ⟨A.bc s,0,none⟩))∧
     Calls Tryz.prog 105 #[.pointer (some ⟨A.be,0,none⟩),.pointer (some ⟨A.bc s,0,none⟩),.agg #[zi 0,zi 0,.slice none 0 0,zi 0,zi 0]] ((w2.setCell ⟨b,0,none⟩ (zu (link:Int))).setCell ⟨b,2,none⟩ (.bool true)) (Tells A1 ((w2.setCell ⟨b,0,none⟩ (zu (link:Int))).setCell ⟨b,2,none⟩ (.bool true)) s ((σ.put (9+c.op.key) link).takeKey s c.op.key ⟨link,0,true⟩,.fin {}))∧
     Grow A.L w A1.L ((w2.setCell ⟨b,0,none⟩ (zu (link:Int))).setCell ⟨b,2,none⟩ (.bool true))):=by
  intro w1 w2 A1 b g1 r2 g2 st hbx hvp;have ht1:(σ.put (9+c.op.key) link).txns.getD s none=some t:=ht;have ht2:=takeKey_txn ht1 c.op.key ⟨0,0,false⟩;have hx2:({t with cells:=(c.op.key,(⟨0,0,false⟩:Cel))::t.cells,keys:=t.keys++[c.op.key]}:Txn).cell c.op.key=some ⟨0,0,false⟩:=by simp[Txn.cell,List.lookup]
  obtain⟨a0,a1,a2⟩:=r2.cel ht2 hx2;have z0:=r2.celF ht2 hx2 0;have z2:=r2.celF ht2 hx2 2;obtain⟨r3,g3⟩:=r2.celSet ht2 hx2 ⟨link,0,false⟩ 0 (zu (link:Int)) rfl;have e3:=takeKey_cell ht1 c.op.key ⟨0,0,false⟩ ⟨link,0,false⟩ hx;rw[txn_get ht2] at e3;rw[e3] at r3;have ht3:=takeKey_txn ht1 c.op.key ⟨link,0,false⟩;have hx3:({t with cells:=(c.op.key,(⟨link,0,false⟩:Cel))::t.cells,keys:=t.keys++[c.op.key]}:Txn).cell c.op.key=some ⟨link,0,false⟩:=by simp[Txn.cell,List.lookup]
  obtain⟨r4,g4⟩:=r3.celSet ht3 hx3 ⟨link,0,true⟩ 2 (.bool true) rfl;have e4:=takeKey_cell ht1 c.op.key ⟨link,0,false⟩ ⟨link,0,true⟩ hx;rw[txn_get ht3] at e4;rw[e4] at r4;rw[hbx] at a0 a2 z0 z2 g3 r4 g4;have g5:=((g1.trans g2).trans g3).trans g4;have he:=ends_at r4 s {} 0 0 0 0 (.slice none 0 0) rfl (.inr ⟨rfl,rfl⟩);rw[st.be,st.bc] at he;exact⟨a0,z0,a2,z2,(B3.grow (g1.trans g2)).cell,(B0.grow g5).cell,(B1.grow g5).cell,he,g5⟩
 clear hR ht hc hk hx hkl hcnt B0 B1 B2 B3 B4 hm hrun hb hcs;generalize (σ.put (9+c.op.key) link).takeKey s c.op.key ⟨0,0,false⟩=σ1 at*;generalize (σ.put (9+c.op.key) link).takeKey s c.op.key ⟨link,0,true⟩=σ2 at*;generalize c.op.key=key at*;go_enter Tryz.func182,Tryz.ntmps182;go_wp2_with fail;refine wp_region_still_tail 12 (by kernel_rfl) (by kernel_rfl) ?_;simp only[zta,ztb,ztc,ztd]
 repeat still_step
 refine wpStill_nil ?_;change wpList _ _ _ _ _ w.drew;generalize w.drew=wd at*;go_wp2_with (go_at_call 60;refine HL.out.mono ?_;rintro e w1 ⟨rfl,q1,q2⟩;have g1:=HG.out.trans q2;obtain⟨hf,d1,d4,d5⟩:=HB.out w1 q1 g1;have HQ:=zH (zA hf (g1.trans (Grow.drew _ _)));clear q1 q2 g1 hf);refine wp_region_still_tail 6 (by kernel_rfl) (by kernel_rfl) ?_;simp only[zta,ztb,ztc,ztd]
 repeat still_step
 refine wpStill_nil ?_;change wpList _ _ _ _ _ w1.drew;generalize w1.drew=wd1 at*;go_wp2_with (first|(go_at_call 167;refine HQ.out.1.mono ?_;rintro e w2 ⟨b,rfl,A1,r2,g2,st,hbx,hvp⟩;obtain⟨a0,z0,a2,z2,d3,y0,y1,he,g5⟩:=HE.out _ w2 A1 b HQ.out.2 r2 g2 st hbx hvp;have HZ:=zH (zA he (zA g5 st));clear r2 g2 st hbx hvp he g5)|(go_at_call 105;refine HZ.out.1.mono ?_;rintro e w3 ⟨A2,v,rfl,p1,p2,p3,p4⟩));go_ret;exact⟨A2,v,rfl,p1,HZ.out.2.1.trans p2,HZ.out.2.2.trans p3,p4⟩
theorem k_pushC (hR:Rep A σ w) (s:Nat) (t:Txn) (ht:σ.txns.getD s none=some t) (c:Cal) (hc:σ.calls.getD s none=some c) (link head:Nat) (hk:c.op.key<64) (hx:t.cell c.op.key=none) (hkl:t.keys.length<1000000) (hcnt:σ.count<4000000000000000000) (b0 b1 b2 b3 b4:Nat)
 (B0:Box A.L w b0 (.pointer (some ⟨A.be,0,none⟩))) (B1:Box A.L w b1 (.pointer (some ⟨A.bc s,0,none⟩))) (B2:Box A.L w b2 (zu (head:Int))) (B3:Box A.L w b3 (zu (link:Int))) (B4:Box A.L w b4 (.pointer (some ⟨A.bt s,0,none⟩))):
 Calls Tryz.prog 182 #[.pointer (some ⟨b0,0,none⟩),.pointer (some ⟨b1,0,none⟩),.pointer (some ⟨b2,0,none⟩),.pointer (some ⟨b3,0,none⟩),.pointer (some ⟨b4,0,none⟩)] w (Ran A w s (σ.run s (.pushC link head))):=by
 by_cases hm:σ.word (9+c.op.key)=head
 · exact k_pushC_hit hR s t ht c hc link head hk hx hkl hcnt b0 b1 b2 b3 b4 B0 B1 B2 B3 B4 hm
 · exact k_pushC_miss hR s t ht c hc link head hk hx hkl hcnt b0 b1 b2 b3 b4 B0 B1 B2 B3 B4 hm
def Told (A:Book) (w:World) (s:Nat) (σ':St):Ending→World→Prop:=fun e w'=>e=.returned (.tuple #[])∧∃ A',Rep A' σ' w'∧Grow A.L w A'.L w'∧Stay A A' s∧A'.bx=A.bx∧A'.vpairs=A.vpairs
theorem tell1_any (hR:Rep A σ w) (s:Nat) (t:Txn) (ht:σ.txns.getD s none=some t) (e:Ev) (kk tt rr:Int) (hcs:evCs e (.slice none 0 0)=[zi kk,zi tt,zu 0,zi 0,zi 0,zi 0,zi 0,zi 0,zi 0,.slice none 0 0,zi 0,zi rr]) (hp:e.res.pairs=[]) (hn:σ.tale.length<1000000) (b0 b1 b2:Nat) (B0:Box A.L w b0 (.pointer (some ⟨A.bt s,0,none⟩))) (B1:Box A.L w b1 (.pointer (some ⟨A.be,0,none⟩))) (TT:TypeId) (X2:Fix A.L w b2 (.cells #[zi kk,zi tt,zu 0,zi 0,zi 0,zi 0,zi 0,zi 0,zi 0,.slice none 0 0,zi 0,zi rr] TT)):
 Calls Tryz.prog 138 #[.pointer (some ⟨b0,0,none⟩),.pointer (some ⟨b1,0,none⟩),.pointer (some ⟨b2,0,none⟩)] w (Told A w s (σ.event e)):=by
 have c0:=B0.cell;have t13:w.cell? ⟨A.bt s,13,none⟩=some (.bool (A.vover s)):=hR.txn ht 13 rfl;have z13:=hR.txnF ht 13;obtain⟨r1,g1⟩:=hR.txnOver ht true;have B1':=(B1.grow g1).cell;have X2':=X2.grow g1;have x0:=X2'.cell 0 (v:=zi kk) rfl;have x1:=X2'.cell 1 (v:=zi tt) rfl;have x2:=X2'.cell 2 (v:=zu 0) rfl;have x3:=X2'.cell 3 (v:=zi 0) rfl;have x4:=X2'.cell 4 (v:=zi 0) rfl;have x5:=X2'.cell 5 (v:=zi 0) rfl;have x6:=X2'.cell 6 (v:=zi 0) rfl;have x7:=X2'.cell 7 (v:=zi 0) rfl;have x8:=X2'.cell 8 (v:=zi 0) rfl;have x9:=X2'.cell 9 (v:=.slice none 0 0) rfl;have x10:=X2'.cell 10 (v:=zi 0) rfl;have x11:=X2'.cell 11 (v:=zi rr) rfl;have he:=event_any r1 s e kk tt 0 0 0 0 0 0 0 0 rr none 0 0 hcs (by rw[hp];exact PRow.nil _ _) hn;have HE:=zH (zA he g1);clear hR ht B0 B1 X2 X2' r1 g1 he hcs hp hn;go_enter Tryz.func138,Tryz.ntmps138;go_wp2_with (go_at_call 65;refine HE.out.1.mono ?_;rintro e' w2 ⟨rfl,A2,q1,q2,q3,q4,q5⟩)
 go_end0
 exact⟨rfl,A2,q1,HE.out.2.trans q2,⟨q3.bf,q3.ba,q3.bp,q3.bt,q3.bm,q3.bc,q3.vnext,q3.vcall,q3.vsweep,q3.mp,q3.mt,q3.bx,q3.vpairs⟩,q4,q5⟩
theorem tell_any (hR:Rep A σ w) (s:Nat) (t:Txn) (ht:σ.txns.getD s none=some t) (hm:A.mt s=0) (e:Ev) (kk tt rr:Int) (hcs:evCs e (.slice none 0 0)=[zi kk,zi tt,zu 0,zi 0,zi 0,zi 0,zi 0,zi 0,zi 0,.slice none 0 0,zi 0,zi rr]) (hp:e.res.pairs=[]) (hn:σ.tale.length<1000000):
 Calls Tryz.prog 117 #[.pointer (some ⟨A.be,0,none⟩),.pointer (some ⟨A.bt s,0,none⟩),.agg #[zi kk,zi tt,zu 0,zi 0,zi 0,zi 0,zi 0,zi 0,zi 0,.slice none 0 0,zi 0,zi rr]] w (Told A w s (σ.tellEnd s e)):=by
 obtain⟨r3,g3,f0,f1,f2⟩:=allocs3 hR #[.pointer (some ⟨A.be,0,none⟩)] 32 #[.pointer (some ⟨A.bt s,0,none⟩)] 93 #[zi kk,zi tt,zu 0,zi 0,zi 0,zi 0,zi 0,zi 0,zi 0,.slice none 0 0,zi 0,zi rr] 83;have a1:=f1.cell 0 (v:=.pointer (some ⟨A.bt s,0,none⟩)) rfl
 by_cases ho:t.over=true
 · have e0:σ.tellEnd s e=σ:=by unfold St.tellEnd;rw[txn_get ht,if_pos ho]
   rw[e0];have t10:=r3.txn ht 10 (v:=.int .u32 1) (by simp[txnCs,onceCs,ho]);have HD:=zH (fun fv=>do_done ⟨A.bt s,10,none⟩ fv _ t10);have HR:=zH (zA r3 g3);clear hR ht r3 g3 f0 f1 f2 hm hcs hp hn ho e0 t10;go_enter Tryz.func117,Tryz.ntmps117;go_wp2_with (go_at_call 137;refine (HD.out _).mono ?_;rintro e' w2 ⟨rfl,rfl⟩)
   go_end0
   exact⟨rfl,A,HR.out.1,HR.out.2,Stay.refl _ _,rfl,rfl⟩
 · have ho':t.over=false:=by simpa using ho
   have e0:σ.tellEnd s e=(σ.setT s {t with over:=true}).event e:=by unfold St.tellEnd;rw[txn_get ht,if_neg ho]
   rw[e0];have t10:=r3.txn ht 10 (v:=.int .u32 0) (by simp[txnCs,onceCs,ho']);have t11:=r3.txn ht 11 (v:=.int .i32 0) (by simp[txnCs,onceCs,hm]);have z10:=r3.txnF ht 10;have z11:=r3.txnF ht 11;obtain⟨r4,g4⟩:=r3.txnLock ht 1;have hf:=tell1_any r4 s t ht e kk tt rr hcs hp hn (w.heap.size+1) w.heap.size (w.heap.size+1+1) (f1.box.grow g4) (f0.box.grow g4) _ (f2.grow g4)
   have hd := do_first (A.bt s) 10 138 #[.pointer (some ⟨w.heap.size + 1, 0, none⟩), .pointer (some ⟨w.heap.size, 0, none⟩), .pointer (some ⟨w.heap.size + 1 + 1, 0, none⟩)] _ _ t10 t11 z10 z11 (enter_tell _) hf (by
     rintro w' ⟨A',q1,q2,q3,q4,q5⟩
     have ht':(σ.event e).txns.getD s none=some t:=ht
     have b10:=q1.txn ht' 10 (v:=.int .u32 0) (by simp[txnCs,onceCs,ho'])
     have b11:=q1.txn ht' 11 (v:=.int .i32 1) (by simp[txnCs,onceCs,q3.mt])
     have y10:=q1.txnF ht' 10
     have y11:=q1.txnF ht' 11
     rw[q3.bt] at b10 b11 y10 y11
     exact⟨b10,b11,y10,y11⟩)
   have HD:=zH hd;have HR:=zH (zA g3 g4);have HT:=zH (zA ht hm);clear hR ht r3 g3 f0 f1 f2 hm hcs hp hn ho ho' e0 t10 t11 z10 z11 r4 g4 hf hd;go_enter Tryz.func117,Tryz.ntmps117;go_wp2_with (go_at_call 137;refine HD.out.mono ?_;rintro e' w2 ⟨rfl,w3,⟨A',q1,q2,q3,q4,q5⟩,rfl⟩)
   go_end0
   have ht':(σ.event e).txns.getD s none=some t:=HT.out.1;obtain⟨k1,g5⟩:=q1.drew.txnDone ht';have ht2:((σ.event e).setT s {t with over:=true}).txns.getD s none=some {t with over:=true}:=by rw[getT_set (lt_of_txn ht'),if_pos rfl]
   obtain⟨k2,g6⟩:=k1.txnLock ht2 0;have gg:=((((HR.out.1.trans HR.out.2).trans q2).trans (Grow.drew _ _)).trans g5).trans g6;have eb:A'.bt s=A.bt s:=by rw[q3.bt]
   rw[eb] at k2 gg;refine⟨rfl,_,k2,gg,⟨q3.bf,q3.ba,q3.bp,q3.bt,q3.bm,q3.bc,q3.vnext,q3.vcall,q3.vsweep,q3.mp,?_,q3.bx,q3.vpairs⟩,q4,q5⟩;show (fun k=>if k=s then 0 else A'.mt k)=A.mt;rw[q3.mt]
   funext k
   show (if k=s then 0 else if k=s then 1 else A.mt k)=A.mt k
   by_cases hk:k=s
   · rw[if_pos hk,hk,HT.out.2]
   · rw[if_neg hk,if_neg hk]
theorem index_any (w:World) (l:List Nat) (v:Value) (x:Nat) (ho:w.ownsRow 0 3 1 v l.length (l.map i64)) (hl:l.length<1000000):
 Calls Tryz.prog 226 #[v,zi (x:Int)] w fun e w'=>(∃ r:Int,e=.returned (zi r)∧(0≤r↔x∈l))∧w=w':=by
 obtain⟨av,capv,hv,_⟩:=Ow.own_form ho;have hat:∀ k (hk:k<l.length),∃ g,av=some ⟨g,0,none⟩∧w.cell? ⟨g,k,none⟩=some (zi (l[k]:Int)):=by
  intro k hk;obtain⟨g,cap,e,hc⟩:=own_at ho (j:=k) (u:=zi (l[k]:Int)) (by simp[hk]);rw[hv] at e;simp only[Value.slice.injEq] at e;exact⟨g,e.1,hc⟩
 subst hv;have HAT:=zH hat;have HLL:=zH hl;clear hat ho hl;go_enter Tryz.func226,Tryz.ntmps226;go_wp2
 go_loop [8] (fun i=>∃ k:Nat,k≤l.length∧i=zi (k:Int)∧x ∉ l.take k) (fun i=>l.length - (intOf i).toNat)
 case atStart=>exact⟨0,Nat.zero_le _,rfl,by simp⟩
 case round=>
  obtain⟨k,hk,rfl,hnot⟩:=hrel
  by_cases hlt:k<l.length
  · obtain⟨g,rfl,hc⟩:=HAT.out k hlt
    have ht:l.take (k+1)=l.take k++[l[k]]:=by rw[List.take_succ_eq_append_getElem hlt]
    have hmem:l[k]∈l:=List.getElem_mem hlt;have HT:=zH (zA ht (zA hnot hmem));have b1:(k:Int)<(l.length:Int):=by omega
    have b0:(0:Int)≤(k:Int):=by omega
    have n1:IntKind.i64.wrap ((k:Int)+1)=(k:Int)+1:=by have:=HLL.out;rw[IntKind.wrap_i64];omega
    have HLT:=zH hlt;clear ht hnot hk hmem;generalize l[k]=y at*
    by_cases hy:x=y
    · have HY:=zH hy
      obtain⟨fa1,fa2,fa3,fa4,fa5⟩:=zeT (x:=x) (c:=y) (ci:=(y:Int)) (by omega);clear hy;go_wp2;go_ret;exact⟨⟨_,rfl,by constructor<;>intro _<;>first|(rw[HY.out];exact HT.out.2.2)|omega⟩,rfl⟩
    · have HY:=zH hy
      obtain⟨fa1,fa2,fa3,fa4,fa5⟩:=zeF (x:=x) (c:=y) (ci:=(y:Int)) (by omega);clear hy;go_wp2
      go_round
      case rel=>exact⟨k+1,HLT.out,by first|rfl|go_num,by rw[HT.out.1];intro h;rcases List.mem_append.1 h with h|h;exact HT.out.2.1 h;exact HY.out (List.mem_singleton.1 h)⟩
      case measure=>have:=HLT.out;simp[intOf];omega
  · have hx:x ∉ l:=by rw[List.take_of_length_le (by omega)] at hnot;exact hnot
    have HX:=zH hx;obtain rfl:k=l.length:=by omega
    clear hlt hnot hk hx;go_wp2;go_ret;exact⟨⟨_,rfl,by constructor;intro h;exact absurd h (by decide);intro h;exact absurd h HX.out⟩,rfl⟩
theorem contains_any (w:World) (l:List Nat) (v:Value) (x:Nat) (ho:w.ownsRow 0 3 1 v l.length (l.map i64)) (hl:l.length<1000000):
 Calls Tryz.prog 225 #[v,zi (x:Int)] w fun e w'=>e=.returned (.bool (decide (x∈l)))∧w=w':=by
 have HI:=zH (index_any w l v x ho hl);clear ho hl;go_enter Tryz.func225,Tryz.ntmps225;go_wp2_with (go_at_call 226;refine HI.out.mono ?_;rintro e w' ⟨⟨r,rfl,hr⟩,rfl⟩);go_ret;refine⟨?_,rfl⟩;have e:decide ((0:Int)≤r)=decide (x∈l):=by rw[decide_eq_decide];exact hr
 first|(rw[←e];rfl)|(simp[hr];done)|(rw[show decide (r≥0)=decide (x∈l) from e])
theorem Does.trans2 {A:Book} {w w1:World} {s:Nat} {σ1 σ2:St} {v:Value} {e:Ending} {w':World} {A1:Book} (g1:Grow A.L w A1.L w1) (s1:Stay A A1 s) (b1:A1.bx=A.bx) (p1:A1.vpairs=A.vpairs) (h:Does A1 w1 s σ2 v e w'):Does A w s σ2 v e w':=
 let ⟨e1,A2,r,g,st,bx,vp⟩:=h;⟨e1,A2,r,g1.trans g,s1.trans st,bx.trans b1,vp.trans p1⟩
theorem bind_any (hR:Rep A σ w) (s:Nat) (t:Txn) (ht:σ.txns.getD s none=some t) (tq:Nat) (hto:tq≤65535) (hn:t.bonds.length<1000000) (htl:σ.tale.length<1000000):
 Calls Tryz.prog 216 #[.pointer (some ⟨A.be,0,none⟩),.pointer (some ⟨A.bt s,0,none⟩),zi (tq:Int)] w (Does A w s (σ.bind s tq) (.tuple #[])):=by
 have c9:w.cell? ⟨A.bt s,9,none⟩=some (A.vbonds s):=hR.txn ht 9 rfl;have z9:=hR.txnF ht 9;have hown0:=hR.mem.all (.bonds s);rw[mem_bonds ht] at hown0;obtain⟨av,capv,hv,_⟩:=Ow.own_form hown0.1;have HC:=zH (contains_any w t.bonds _ tq hown0.1 hn)
 by_cases hm:tq∈t.bonds
 · have hst:σ.bind s tq=σ:=by unfold St.bind;rw[txn_get ht,if_pos hm]
   rw[hst];have hd:decide (tq∈t.bonds)=true:=by simpa using hm
   rw[hd,hv] at HC;rw[hv] at c9;have HR:=zH hR;clear hR ht hn htl hm hst hd hown0 hto hv;generalize t.bonds.length=n at*;go_enter Tryz.func216,Tryz.ntmps216;go_wp2_with (go_at_call 225;refine HC.out.mono ?_;rintro e w' ⟨rfl,rfl⟩)
   go_end0
   exact⟨rfl,A,HR.out,Grow.refl _ _,Stay.refl _ _,rfl,rfl⟩
 · have hd:decide (tq∈t.bonds)=false:=by simpa using hm
   rw[hd,hv] at HC;have hst:σ.bind s tq=(σ.setT s {t with bonds:=t.bonds++[tq]}).event {kind:=4,t:=t.id,n:=tq}:=by unfold St.bind;rw[txn_get ht,if_neg hm]
   rw[hst];have hA:=hR.alloc (.cells #[zi (tq:Int)] 3);have hown:=hA.mem.all (.bonds s);rw[mem_bonds ht] at hown;have ho:(w.alloc (.cells #[zi (tq:Int)] 3)).ownsRow 0 3 1 (A.vbonds s) t.bonds.length (t.bonds.map i64):=hown.1;have n1:IntKind.u64.wrap (tq:Int)=(tq:Int):=by rw[IntKind.wrap_u64];omega
   have FN : Hid (∀ v' w2, w2.ownsRow 0 3 1 v' (t.bonds.length + 1) (t.bonds.map i64 ++ [zi (tq : Int)]) → (w.alloc (.cells #[zi (tq : Int)] 3)).grownBy w2 (A.vbonds s).ownBlock → (v'.ownBlock = (A.vbonds s).ownBlock ∨ ∀ g, v'.ownBlock = some g → (w.alloc (.cells #[zi (tq : Int)] 3)).heap.size ≤ g) →
       (w2.setCell ⟨A.bt s,9,none⟩ v').cell? ⟨A.bt s,0,none⟩=some (zi (t.id:Int))∧Calls Tryz.prog 65 #[.pointer (some ⟨A.be,0,none⟩),.agg #[zi 4,zi (t.id:Int),zu (tq:Int),zi 0,zi 0,zi 0,zi 0,zi 0,zi 0,.slice none 0 0,zi 0,zi 0]] (w2.setCell ⟨A.bt s,9,none⟩ v') (Does A w s ((σ.setT s {t with bonds:=t.bonds++[tq]}).event {kind:=4,t:=t.id,n:=tq}) (.tuple #[]))∧w2.cell? ⟨A.bt s,9,none⟩=some (A.vbonds s)∧w2.frozen? ⟨A.bt s,9,none⟩=false):=by
    intro v' w2 q1 q2 q3;obtain⟨k1,k2,k3,k4⟩:=hA.bondsOn ht (t.bonds++[tq]) v' q2 (by simpa using q1) q3;have ht2:(σ.setT s {t with bonds:=t.bonds++[tq]}).txns.getD s none=some {t with bonds:=t.bonds++[tq]}:=by rw[getT_set (lt_of_txn ht),if_pos rfl]
    refine⟨k1.txn ht2 0 rfl,?_,k3,k4⟩;have he:=event_any k1 s {kind:=4,t:=t.id,n:=tq} 4 t.id tq 0 0 0 0 0 0 0 0 none 0 0 rfl (PRow.nil _ _) htl;refine he.mono fun e w' h=>?_
    exact Does.trans2 (σ1:=σ) ((Grow.alloc A.L w _).trans k2) ⟨rfl,rfl,rfl,rfl,rfl,rfl,rfl,rfl,rfl,rfl,rfl,fun _ _=>rfl,fun _ _=>rfl⟩ rfl rfl h
   rw[hv] at c9 ho FN;have HO:=zH ho;clear hR ht htl hm hst hd hown0 hto hv hA hown ho;generalize hn':t.bonds.length=n at*;have HN:=zH hn;clear hn hn';obtain⟨ii,hii,hz0,hz1,hz2⟩:=info_parts infoI;go_enter Tryz.func216,Tryz.ntmps216;go_wp2_with (first|(go_at_call 225;refine HC.out.mono ?_;rintro e w' ⟨rfl,rfl⟩)|(refine Ow.wpList_append_to _ rfl (.tmp 17) (.tmp 19) 23 rfl 0 _ ii _ 1 8 Tryz.underlying23 hii hz0 hz1 hz2 rfl (by decide) (.slice av n capv) n (t.bonds.map i64) rfl HO.out ⟨w.heap.size,0,none⟩ 1 1 (by omega) [zi (tq:Int)] rfl rfl (by intro j' u hu;exact Ow.new_row _ [zi (tq:Int)] _ _ rfl j' u hu) (by intro u hu;obtain rfl:=List.mem_singleton.1 hu;rfl) (by have:=HN.out;unfold maxLen;omega) (by have:=HN.out;omega) (Nat.zero_le _) ?_;intro v' w4 q1 q2 q3;obtain⟨k1,k2,k3,k4⟩:=FN.out v' w4 q1 q2 q3;obtain⟨a4,cap4,rfl,_⟩:=Ow.own_form q1;have K1:=zH k2;clear k2 q1 q2 q3)|(go_at_call 65;refine K1.out.mono ?_;rintro e w2 hd2;obtain⟨rfl,hd3⟩:=id hd2))
   go_end0
   exact⟨rfl,hd3⟩
theorem PRow.labs {L L':Lab} {w:World} {v:Value} {xs:List Value} (h:PRow L w v xs) {b:Nat} (hL:∀ g,g≠b→L' g=L g) (hb:∀ cs,w.heap[b]? ≠some (.cells cs 134)):PRow L' w v xs:=by
 obtain⟨⟨ad,n,cap,rfl,e2,e3,e4,e5⟩,h2⟩:=h;refine⟨⟨ad,n,cap,rfl,e2,e3,e4,?_⟩,h2⟩
 rcases e5 with h0|⟨g,off,rfl,e7,e8,e9⟩
 · exact .inl h0
 · rcases h2 g off n cap rfl with h0|⟨cs,hc⟩
   · exact .inl h0
   · refine .inr ⟨g,off,rfl,?_,e8,e9⟩
     rw[hL g (by rintro rfl;exact hb _ hc)];exact e7
theorem Evs.labs {L L':Lab} {w:World} {b:Nat} (hL:∀ g,g≠b→L' g=L g) (hb:∀ cs,w.heap[b]? ≠some (.cells cs 134)):∀ {l:List Ev} {xs:List Value},Evs L w l xs→Evs L' w l xs
 |[],_,h=>h
 |_::_,_,⟨vp,ys,h1,h2,h3⟩=>⟨vp,ys,h1,h2.labs hL hb,Evs.labs hL hb h3⟩
theorem Evs.lab {L:Lab} {w:World} {b:Nat} {cs:Array Value} {T:TypeId} {l:List Ev} {xs:List Value} (h:Evs L w l xs) (he:w.heap[b]? =some (.cells cs T)) (hT:T≠134) (r:Role):Evs (lab1 L b r) w l xs:=
 h.labs (fun g hg=>lab1_other hg) (fun cs' hc=>by rw[he] at hc;simp at hc;exact hT hc.2)
theorem Evs.labMap {L:Lab} {w:World} {b:Nat} {es:Array MapEntry} {k:Nat} {l:List Ev} {xs:List Value} (h:Evs L w l xs) (he:w.heap[b]? =some (.map es k)) (r:Role):Evs (lab1 L b r) w l xs:=
 h.labs (fun g hg=>lab1_other hg) (fun cs' hc=>by rw[he] at hc;simp at hc)
theorem Rep.adoptTxn {A:Book} {σ:St} {w w1:World} (h:Rep A σ w1) (g0:Grow A.L w A.L w1) {s b m:Nat} (hfb:A.L b=none) (hfm:A.L m=none) (hs:s<8) (hb:w.heap.size≤b) (hm:w.heap.size≤m) (hbm:b≠m) (t:Txn) (h1:t.keys=[]) (h2:t.cells=[]) (h3:t.reads=[]) (h4:t.bonds=[])
 (he:w1.heap[b]? =some (.cells (txnCs (A.newTxn s b m) s t).toArray 120)) (hmap:w1.heap[m]? =some (.map #[] 0)) (hn:σ.txns.getD s none=none):
 Rep (A.newTxn s b m) (σ.setT s t) (w1.setCell ⟨A.be,5+s,none⟩ (.pointer (some ⟨b,0,none⟩)))∧Grow A.L w (A.newTxn s b m).L (w1.setCell ⟨A.be,5+s,none⟩ (.pointer (some ⟨b,0,none⟩))):=by
 have hlt:b<w1.heap.size:=lt_of he;have hltm:m<w1.heap.size:=lt_of hmap;have n8:=h.n8;have hn2:=hn;rw[List.getD_eq_getElem?_getD] at hn2;have k1:=h.mem.adopt (.txn s) hfb (.obj b (txnCs (A.newTxn s b m) s t) 120) ⟨lab1_same _ _ _,he⟩ hlt;have k2:=k1.adopt (.map s) (b:=m) ((lab1_other (Ne.symm hbm)).trans hfm) (.map m [] 0) ⟨lab1_same _ _ _,hmap⟩ hltm;have hE:(updE (updE (memOf A σ) (.txn s) (.obj b (txnCs (A.newTxn s b m) s t) 120)) (.map s) (.map m [] 0)) .eng=.obj A.be (engCs A σ) 104:=rfl;have k3:=k2.put .eng hE (5+s) (.pointer (some ⟨b,0,none⟩));have g:Grow A.L w (A.newTxn s b m).L (w1.setCell ⟨A.be,5+s,none⟩ (.pointer (some ⟨b,0,none⟩))):=
  ((g0.lab1 hb _).lab1 hm _).trans (k2.grow_set hE (5+s) _)
 have k4 : Holds (A.newTxn s b m).L (w1.setCell ⟨A.be, 5 + s, none⟩ (.pointer (some ⟨b, 0, none⟩))) (fun q => match q with
     |.keys k=>if k=s then .own (.slice none 0 0) 3 1 0 [] else memOf A σ (.keys k)
     |.reads k=>if k=s then .own (.slice none 0 0) 239 3 0 [] else memOf A σ (.reads k)
     |.bonds k=>if k=s then .own (.slice none 0 0) 3 1 0 [] else memOf A σ (.bonds k)
     |q=>updE (updE (updE (memOf A σ) (.txn s) (.obj b (txnCs (A.newTxn s b m) s t) 120)) (.map s) (.map m [] 0)) .eng (.obj A.be ((engCs A σ).set (5+s) (.pointer (some ⟨b,0,none⟩))) 104) q):=by
  refine⟨fun q=>?_,k3.fresh⟩;have k:=k3.all q
  cases q<;>first|exact k|skip
  all_goals
   rename_i j
   by_cases hj:j=s
   · subst hj
     simp only[if_pos];exact⟨World.ownsRow_nil _ 0 _ _,fun g hg=>by cases hg⟩
   · simp only[if_neg hj]
     simp[updE] at k;exact k
 refine⟨⟨k4.of_eq fun q=>?_,((h.ev.lab he (by decide) (.txn s)).labMap hmap (.map s)).grow (k2.grow_set hE (5+s) _),h.sl,h.nw,h.nt,h.nv,by simpa [St.setT] using h.n8,h.nc⟩,g⟩;have gt:∀ k,(σ.setT s t).txns.getD k none=if k=s then some t else σ.txns.getD k none:=fun k=>getT_set (by omega) t k
 have tp:∀ k,(A.newTxn s b m).tp (σ.setT s t) k=if k=s then .pointer (some ⟨b,0,none⟩) else A.tp σ k:=by
  intro k;unfold Book.tp;rw[gt];by_cases hk:k=s
  · subst hk;simp[Book.newTxn]
  · simp[hk,Book.newTxn]
 cases hq:q.tx with
 |none=>
  cases q<;>first|rfl|(simp[Role.tx] at hq;done)|skip
  simp only[updE,if_pos,memOf,engCs,tp]
  match s,hs with
  |0,_|1,_|2,_|3,_|4,_|5,_|6,_|7,_=>rfl
 |some k=>
  rw[mem_tx _ _ hq,gt]
  by_cases hk:k=s
  · subst hk
    rw[if_pos rfl]
    cases q<;>simp[Role.tx] at hq<;>subst hq<;>simp[txEntry,updE,Book.newTxn,upF,h1,h2,h3,h4,mapEs,readCs,Txn.cell,memOf,hn2]
  · rw[if_neg hk,←mem_tx _ σ hq]
    have:=mem_butTx (A:=A) (A':={A.newTxn s b m with bt:=A.bt}) (s:=s) ⟨rfl,rfl,rfl,rfl,rfl,rfl,rfl,rfl,rfl,rfl,rfl,rfl,rfl,rfl,rfl,rfl,rfl,fun k hk=>if_neg hk,fun _ _=>rfl,fun k hk=>upF_other _ _ hk,fun k hk=>upF_other _ _ hk,fun k hk=>upF_other _ _ hk,fun k hk=>if_neg hk,fun k hk=>if_neg hk⟩ σ (q:=q) (by rw[hq];simpa using hk);have e2:memOf (A.newTxn s b m) σ q=memOf {A.newTxn s b m with bt:=A.bt} σ q:=by
     cases q<;>simp[Role.tx] at hq<;>subst hq<;>simp[memOf,Book.newTxn,hk,txnCs,mapEs]
    rw[e2,this]
    cases q<;>simp[Role.tx] at hq<;>subst hq<;>simp[updE,hk]
end Go.Proofs.YtpkenfnmkpmapaaGreat.Em
