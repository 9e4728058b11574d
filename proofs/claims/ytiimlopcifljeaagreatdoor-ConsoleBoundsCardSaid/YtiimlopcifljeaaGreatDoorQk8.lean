import Derived.Test.YtiimlopcifljeaaGreatDoorQk6
namespace Go.Proofs.YtiimlopcifljeaaGreatDoor.Em
open Go.ChangeMaps Go.ChangeShapes Go.WideShapes Go.ChangeAt Go.RowKit En
set_option linter.unusedVariables false
set_option linter.unusedSimpArgs false
set_option maxRecDepth 100000
set_option maxHeartbeats 1600000
theorem update_run {A:Book} {w:World} {s:Nat} {t:Txn} (hb:w.heap[A.bm s]? =some (.map (mapEs A s t).toArray t.cells.length)) (key b:Nat) (hx:t.cell key=none):
 (Instr.mapUpdate 143 (.map (some (A.bm s))) (zi (key:Int)) (ptr b)).run Tryz.prog w=.ok () (setBlock w (A.bm s) (.map (mapEs A s t++[(⟨i64 key,ptr b,t.cells.length⟩:MapEntry)]).toArray (t.cells.length+1))):=by
 have hck:∀ e,(Instr.checkKey e 10000 3 (zi (key:Int))).run Tryz.prog w=.ok () w:=by
  intro e;unfold Instr.checkKey;simp[run_underlying Tryz.underlying3]
 rw[mapEs_ent] at hb ⊢
 rcases findNow_ent (A.bx s) key (t.cells.reverse.zipIdx.map fun p=>(p.1.1,p.2)) 0 with ⟨h1,h2⟩|⟨j,h1,h2⟩
 · clear h2 hx
   generalize (t.cells.reverse.zipIdx.map fun p=>(p.1.1,p.2)).map (ent (A.bx s))=es at*;simp[Instr.mapUpdate,run_underlying Tryz.underlying143,run_underlying Tryz.underlying3,MapKept.run_getObj_map hb,hck,Instr.findKey,h1,MapKept.run_setObj_map _ hb,Result.andThen,setBlock]
 · have h3:=(cell_keys t key).1 h2
   rw[hx] at h3
   cases h3
theorem wpList_update {P:Program} {w w':World} {ops:Array Oper} {rest:List Oper} {o:Oper} {a:Act} {Q:Exit→Act→World→Prop}
 (hg:o.guard=none) (m x v:Operand) (t:TypeId) (hop:o.op=Op.mapUpdate t m x v) (hrun:(Instr.mapUpdate t (a.eval m) (a.eval x) (a.eval v)).run P w=.ok () w')
 (hK:wpList P ops Q rest (a.put o.dst undef) w'):wpList P ops Q (o::rest) a w:=by
 refine wpList_plain hg fun K' hK'=>?_
 unfold Oper.wp;simp[execOp,hop,hrun,Result.andThen];exact hK' _ _ hK
theorem grown_setBlock {w:World} {b:Nat} {es:Array MapEntry} {clock:Nat} (hb:w.heap[b]? =some (.map es clock)) (o:Obj):w.grownBy (setBlock w b o) (some b):=
 ⟨rfl,rfl,rfl,by simp[setBlock],fun i _ hi=>heap_setBlock_other hb _ (fun e=>hi (by rw[e]))⟩
def Took (A:Book) (w:World) (s key:Nat) (σ':St):Ending→World→Prop:=fun e w'=>∃ b,e=.returned (ptr b)∧∃ A',Rep A' σ' w'∧Grow A.L w A'.L w'∧Stay A A' s∧A'.bx s key=b∧A'.vpairs=A.vpairs
theorem take_tells {A:Book} {σ:St} {w:World} (hR:Rep A σ w) (s:Nat) (t:Txn) (ht:σ.txns.getD s none=some t) (key old:Nat) (hx:t.cell key=none) (hk:t.keys.length<1000000):
 Calls Tryz.prog 288 #[.pointer (some ⟨A.bt s,0,none⟩),zi (key:Int),zu (old:Int)] w (Took A w s key (σ.takeKey s key ⟨0,old,false⟩)):=by
 have hb:=hR.map ht;generalize hwa:w.alloc (.cells #[zu 0,zu (old:Int),.bool false] 324)=wa;have hbl:Below w.heap.size w wa:=by rw[←hwa];exact (Below.refl _ _).alloc (Nat.le_refl _) _
 have hblk:wa.heap[w.heap.size]? =some (.cells (celCs ⟨0,old,false⟩).toArray 324):=by rw[←hwa];exact heap_alloc_new w _
 have ra:=hR.below hbl;have t7:=ra.txn ht 7 (v:=.map (some (A.bm s))) rfl;have hb1:=ra.map ht;have hup:=update_run hb1 key w.heap.size hx;generalize hwb:setBlock wa (A.bm s) (.map (mapEs A s t++[(⟨i64 key,ptr w.heap.size,t.cells.length⟩:MapEntry)]).toArray (t.cells.length+1))=wb at hup;obtain⟨rb,gb⟩:=hR.newCel hbl ht hx (Nat.le_refl _) ⟨0,old,false⟩ hblk (w2:=wb) (by rw[←hwb];exact grown_setBlock hb1 _) (by rw[←hwb];exact heap_setBlock_same hb1 _) (by rw[←hwb];simp[setBlock]);have ht2:(σ.setT s {t with cells:=(key,⟨0,old,false⟩)::t.cells}).txns.getD s none=some {t with cells:=(key,⟨0,old,false⟩)::t.cells}:=by rw[getT_set (lt_of_txn ht),if_pos rfl]
 have t6:wb.cell? ⟨A.bt s,6,none⟩=some (A.vkeys s):=rb.txn ht2 6 rfl;have z6:=rb.txnF ht2 6;have rc:=rb.alloc (.cells #[zi (key:Int)] 3);have hown:=(rc.mem.all (.keys s))
 rw[mem_keys ht2] at hown;have ho:(wb.alloc (.cells #[zi (key:Int)] 3)).ownsRow 0 3 1 (A.vkeys s) t.keys.length (t.keys.map i64):=hown.1;obtain⟨av,capv,hv,_⟩:=Ow.own_form ho;have e:σ.takeKey s key ⟨0,old,false⟩=(σ.setT s {t with cells:=(key,⟨0,old,false⟩)::t.cells}).setT s {t with cells:=(key,⟨0,old,false⟩)::t.cells,keys:=t.keys++[key]}:=by
  unfold St.takeKey St.setT;rw[txn_get ht];simp
 rw[e]
 have FN : Hid (∀ v' w2, w2.ownsRow 0 3 1 v' (t.keys.length + 1) (t.keys.map i64 ++ [zi (key : Int)]) → (wb.alloc (.cells #[zi (key : Int)] 3)).grownBy w2 (A.vkeys s).ownBlock → (v'.ownBlock = (A.vkeys s).ownBlock ∨ ∀ g, v'.ownBlock = some g → (wb.alloc (.cells #[zi (key : Int)] 3)).heap.size ≤ g) →
     (∃ A',Rep A' ((σ.setT s {t with cells:=(key,⟨0,old,false⟩)::t.cells}).setT s {t with cells:=(key,⟨0,old,false⟩)::t.cells,keys:=t.keys++[key]}) (w2.setCell ⟨A.bt s,6,none⟩ v')∧Grow A.L w A'.L (w2.setCell ⟨A.bt s,6,none⟩ v')∧Stay A A' s∧A'.bx s key=w.heap.size∧A'.vpairs=A.vpairs)∧w2.cell? ⟨A.bt s,6,none⟩=some (A.vkeys s)∧w2.frozen? ⟨A.bt s,6,none⟩=false):=by
  intro v' w2 q1 q2 q3;obtain⟨k1,k2,k3,k4⟩:=rc.keysOn ht2 (t.keys++[key]) v' q2 (by simpa using q1) q3;refine⟨⟨_,k1,(gb.trans (Grow.alloc _ _ _)).trans k2,⟨rfl,rfl,rfl,rfl,rfl,rfl,rfl,rfl,rfl,rfl,rfl,fun k hk'=>?_,fun _ _=>rfl⟩,?_,rfl⟩,k3,k4⟩
  · funext j
    show (if k=s∧j=key then w.heap.size else A.bx k j)=A.bx k j;rw[if_neg (fun h=>hk' h.1)]
  · show (if s=s∧key=key then w.heap.size else A.bx s key)=w.heap.size
    rw[if_pos ⟨rfl,rfl⟩]
 have HUP:=zH hup;rw[←hwa] at HUP t7;rw[hv] at t6 ho FN;have HO:=zH ho;have z6':wb.frozen? ⟨A.bt s,6,none⟩=false:=z6;have HZ:=zH (show wb.heap.size=w.heap.size+1 by rw[←hwb,←hwa];simp[setBlock]);clear hR ht hb hbl hblk ra hb1 hup rb gb ht2 rc hown ho e hwb hwa hx z6;generalize hn:t.keys.length=n at*;have HN:=zH hk;clear hk hn;obtain⟨ii,hii,hz0,hz1,hz2⟩:=info_parts infoI;go_enter Tryz.func288,Tryz.ntmps288;go_wp2_with (first|(refine wpList_update rfl (.tmp 14) (.tmp 15) (.tmp 16) 143 rfl HUP.out ?_)|(refine Ow.wpList_append_to _ rfl (.tmp 21) (.tmp 23) 57 rfl 0 _ ii _ 1 8 Tryz.underlying57 hii hz0 hz1 hz2 rfl (by decide) (.slice av n capv) n (t.keys.map i64) rfl HO.out ⟨wb.heap.size,0,none⟩ 1 1 (by omega) [zi (key:Int)] rfl rfl (by intro j' u hu;exact Ow.new_row _ [zi (key:Int)] _ _ rfl j' u hu) (by intro u hu;obtain rfl:=List.mem_singleton.1 hu;rfl) (by have:=HN.out;unfold maxLen;omega) (by have:=HN.out;omega) (Nat.zero_le _) ?_;intro v' w4 q1 q2 q3;obtain⟨k1,k2,k3⟩:=FN.out v' w4 q1 q2 q3;obtain⟨a4,cap4,rfl,_⟩:=Ow.own_form q1;have K1:=zH k1;clear k1 q1 q2 q3));go_ret;exact⟨_,rfl,K1.out⟩
end Go.Proofs.YtiimlopcifljeaaGreatDoor.Em
namespace Go.Proofs.YtiimlopcifljeaaGreatDoor.Em
open Go.ChangeShapes Go.WideShapes Go.ChangeAt Go.RowKit En
set_option linter.unusedVariables false
set_option linter.unusedSimpArgs false
set_option maxRecDepth 100000
set_option maxHeartbeats 1600000
variable {A:Book} {σ:St} {w:World}
theorem cas_i (h:Rep A σ w) (i o n:Nat) (z:Int) (hz:z=(i:Int)) (hi:i<σ.words.length) (hc:σ.count<4000000000000000000):
 Calls Tryz.prog 69 #[.pointer (some ⟨A.ba,0,none⟩),zi z,zu (o:Int),zu (n:Int)] w (Did A w (σ.cas i o n) (.bool (σ.word i==o))):=by subst hz;exact cas_any h i o n hi hc
theorem upd_cons (l:List (Nat×Cel)) (key:Nat) (x y:Cel) (h:l.lookup key=none):upd ((key,x)::l) key y=(key,y)::l:=by
 have h1:=lookup_none h;unfold upd;simp only[List.map_cons,if_true]
 congr 1
 conv=>rhs;rw[←List.map_id l]
 refine List.map_congr_left fun p hp=>?_
 simp[h1 p hp]
theorem takeKey_cell {σ:St} {s:Nat} {t:Txn} (ht:σ.txns.getD s none=some t) (key:Nat) (x y:Cel) (hx:t.cell key=none):
 (σ.takeKey s key x).setT s {(σ.takeKey s key x).t s with cells:=upd ((σ.takeKey s key x).t s).cells key y}=σ.takeKey s key y:=by
 have e:(σ.takeKey s key x).t s={t with cells:=(key,x)::t.cells,keys:=t.keys++[key]}:=by
  refine txn_get ?_;unfold St.takeKey;rw[txn_get ht,getT_set (lt_of_txn ht),if_pos rfl]
 rw[e];unfold St.takeKey St.setT;simp only[txn_get ht,List.set_set];rw[upd_cons _ _ _ _ hx]
theorem takeKey_txn {σ:St} {s:Nat} {t:Txn} (ht:σ.txns.getD s none=some t) (key:Nat) (x:Cel):(σ.takeKey s key x).txns.getD s none=some {t with cells:=(key,x)::t.cells,keys:=t.keys++[key]}:=by
 unfold St.takeKey;rw[txn_get ht,getT_set (lt_of_txn ht),if_pos rfl]
theorem k_pushC_miss (hR:Rep A σ w) (s:Nat) (t:Txn) (ht:σ.txns.getD s none=some t) (c:Cal) (hc:σ.calls.getD s none=some c) (link head:Nat) (hk:c.op.key<64) (hx:t.cell c.op.key=none) (hkl:t.keys.length<1000000) (hcnt:σ.count<4000000000000000000) (b0 b1 b2 b3 b4:Nat)
 (B0:Box A.L w b0 (.pointer (some ⟨A.be,0,none⟩))) (B1:Box A.L w b1 (.pointer (some ⟨A.bc s,0,none⟩))) (B2:Box A.L w b2 (zu (head:Int))) (B3:Box A.L w b3 (zu (link:Int))) (B4:Box A.L w b4 (.pointer (some ⟨A.bt s,0,none⟩))) (hm:σ.word (9+c.op.key)≠head):
 Calls Tryz.prog 305 #[.pointer (some ⟨b0,0,none⟩),.pointer (some ⟨b1,0,none⟩),.pointer (some ⟨b2,0,none⟩),.pointer (some ⟨b3,0,none⟩),.pointer (some ⟨b4,0,none⟩)] w (Ran A w s (σ.run s (.pushC link head))):=by
 have c0:=B0.cell;have c1:=B1.cell;have c2:=B2.cell;have c3:=B3.cell;have e2:=hR.z2;have k1:w.cell? ⟨A.bc s,1,none⟩=some (zi (c.op.key:Int)):=hR.call hc 1 rfl;have n1:IntKind.i64.wrap (9+(c.op.key:Int))=9+(c.op.key:Int):=by rw[IntKind.wrap_i64];omega
 have HL:=zH (cas_i hR.drew (9+c.op.key) head link (9+(c.op.key:Int)) (by omega) (by rw[hR.nw];omega) hcnt);have HG:=zG A.L w;have hrun:σ.run s (.pushC link head)=(σ.tick,some (.fresh link)):=by simp[St.run,call_get hc,St.cas,hm]
 rw[hrun];have hb:(σ.word (9+c.op.key)==head)=false:=by simpa using hm
 have hcs:σ.cas (9+c.op.key) head link=σ.tick:=if_neg hm;rw[hb,hcs] at HL;have HB:Hid (∀ w1,Rep A σ.tick w1→Grow A.L w A.L w1→Calls Tryz.prog 213 #[.pointer (some ⟨A.be,0,none⟩),.pointer (some ⟨A.bt s,0,none⟩),.pointer (some ⟨A.bc s,0,none⟩),zu (link:Int)] w1 (Tells A w1 s (σ.tick,.fresh link))∧w1.cell? ⟨b0,0,none⟩=some (.pointer (some ⟨A.be,0,none⟩))∧w1.cell? ⟨b1,0,none⟩=some (.pointer (some ⟨A.bc s,0,none⟩))∧w1.cell? ⟨b3,0,none⟩=some (zu (link:Int))∧w1.cell? ⟨b4,0,none⟩=some (.pointer (some ⟨A.bt s,0,none⟩))):=
  fun w1 q g=>⟨fresh_any q s link,(B0.grow g).cell,(B1.grow g).cell,(B3.grow g).cell,(B4.grow g).cell⟩
 clear hR ht hc hk hx hkl hcnt B0 B1 B2 B3 B4 hm hrun hb hcs;generalize c.op.key=key at*;go_enter Tryz.func305,Tryz.ntmps305;go_wp2_with fail;refine wp_region_still_tail 12 (by kernel_rfl) (by kernel_rfl) ?_;simp only[zta,ztb,ztc,ztd]
 repeat still_step
 refine wpStill_nil ?_;change wpList _ _ _ _ _ w.drew;generalize w.drew=wd at*;go_wp2_with (first|(go_at_call 69;refine HL.out.mono ?_;rintro e w1 ⟨rfl,q1,q2⟩;have g1:=HG.out.trans q2;obtain⟨hf,d0,d1,d3,d4⟩:=HB.out w1 q1 g1;have HQ:=zH (zA hf g1);clear q1 q2 g1 hf)|(go_at_call 213;refine HQ.out.1.mono ?_;rintro e w2 ⟨A2,v,rfl,p1,p2,p3,p4⟩));go_ret;exact⟨A2,v,rfl,p1,HQ.out.2.trans p2,p3,p4⟩
theorem k_pushC_hit (hR:Rep A σ w) (s:Nat) (t:Txn) (ht:σ.txns.getD s none=some t) (c:Cal) (hc:σ.calls.getD s none=some c) (link head:Nat) (hk:c.op.key<64) (hx:t.cell c.op.key=none) (hkl:t.keys.length<1000000) (hcnt:σ.count<4000000000000000000) (b0 b1 b2 b3 b4:Nat)
 (B0:Box A.L w b0 (.pointer (some ⟨A.be,0,none⟩))) (B1:Box A.L w b1 (.pointer (some ⟨A.bc s,0,none⟩))) (B2:Box A.L w b2 (zu (head:Int))) (B3:Box A.L w b3 (zu (link:Int))) (B4:Box A.L w b4 (.pointer (some ⟨A.bt s,0,none⟩))) (hm:σ.word (9+c.op.key)=head):
 Calls Tryz.prog 305 #[.pointer (some ⟨b0,0,none⟩),.pointer (some ⟨b1,0,none⟩),.pointer (some ⟨b2,0,none⟩),.pointer (some ⟨b3,0,none⟩),.pointer (some ⟨b4,0,none⟩)] w (Ran A w s (σ.run s (.pushC link head))):=by
 have c0:=B0.cell;have c1:=B1.cell;have c2:=B2.cell;have c3:=B3.cell;have e2:=hR.z2;have k1:w.cell? ⟨A.bc s,1,none⟩=some (zi (c.op.key:Int)):=hR.call hc 1 rfl;have n1:IntKind.i64.wrap (9+(c.op.key:Int))=9+(c.op.key:Int):=by rw[IntKind.wrap_i64];omega
 have HL:=zH (cas_i hR.drew (9+c.op.key) head link (9+(c.op.key:Int)) (by omega) (by rw[hR.nw];omega) hcnt);have HG:=zG A.L w;have hrun:σ.run s (.pushC link head)=((σ.put (9+c.op.key) link).takeKey s c.op.key ⟨link,0,true⟩,some (.fin {})):=by simp[St.run,call_get hc,St.cas,hm]
 rw[hrun];have hb:(σ.word (9+c.op.key)==head)=true:=by simpa using hm
 have hcs:σ.cas (9+c.op.key) head link=σ.put (9+c.op.key) link:=if_pos hm;rw[hb,hcs] at HL;have HB:Hid (∀ w1,Rep A (σ.put (9+c.op.key) link) w1→Grow A.L w A.L w1→Calls Tryz.prog 288 #[.pointer (some ⟨A.bt s,0,none⟩),zi (c.op.key:Int),zu 0] w1.drew (Took A w1.drew s c.op.key ((σ.put (9+c.op.key) link).takeKey s c.op.key ⟨0,0,false⟩))∧w1.cell? ⟨b1,0,none⟩=some (.pointer (some ⟨A.bc s,0,none⟩))∧w1.cell? ⟨b4,0,none⟩=some (.pointer (some ⟨A.bt s,0,none⟩))∧w1.cell? ⟨A.bc s,1,none⟩=some (zi (c.op.key:Int))):=
  fun w1 q g=>⟨take_tells q.drew s t ht c.op.key 0 hx hkl,(B1.grow g).cell,(B4.grow g).cell,q.call hc 1 rfl⟩
 have HE : Hid (∀ w1 w2 A1 b, Grow A.L w A.L w1 → Rep A1 ((σ.put (9 + c.op.key) link).takeKey s c.op.key ⟨0, 0, false⟩) w2 → Grow A.L w1 A1.L w2 → Stay A A1 s → A1.bx s c.op.key = b → A1.vpairs = A.vpairs →
     w2.cell? ⟨b,0,none⟩=some (zu 0)∧w2.frozen? ⟨b,0,none⟩=false∧w2.cell? ⟨b,2,none⟩=some (.bool false)∧w2.frozen? ⟨b,2,none⟩=false∧w2.cell? ⟨b3,0,none⟩=some (zu (link:Int))∧
     ((w2.setCell ⟨b,0,none⟩ (zu (link:Int))).setCell ⟨b,2,none⟩ (.bool true)).cell? ⟨b0,0,none⟩=some (.pointer (some ⟨A.be,0,none⟩))∧((w2.setCell ⟨b,0,none⟩ (zu (link:Int))).setCell ⟨b,2,none⟩ (.bool true)).cell? ⟨b1,0,none⟩=some (.pointer (some ⟨A.bc s,0,none⟩))∧
     Calls Tryz.prog 195 #[.pointer (some ⟨A.be,0,none⟩),.pointer (some ⟨A.bc s,0,none⟩),.agg #[zi 0,zi 0,.slice none 0 0,zi 0,zi 0]] ((w2.setCell ⟨b,0,none⟩ (zu (link:Int))).setCell ⟨b,2,none⟩ (.bool true)) (Tells A1 ((w2.setCell ⟨b,0,none⟩ (zu (link:Int))).setCell ⟨b,2,none⟩ (.bool true)) s ((σ.put (9+c.op.key) link).takeKey s c.op.key ⟨link,0,true⟩,.fin {}))∧
     Grow A.L w A1.L ((w2.setCell ⟨b,0,none⟩ (zu (link:Int))).setCell ⟨b,2,none⟩ (.bool true))):=by
  intro w1 w2 A1 b g1 r2 g2 st hbx hvp;have ht1:(σ.put (9+c.op.key) link).txns.getD s none=some t:=ht;have ht2:=takeKey_txn ht1 c.op.key ⟨0,0,false⟩;have hx2:({t with cells:=(c.op.key,(⟨0,0,false⟩:Cel))::t.cells,keys:=t.keys++[c.op.key]}:Txn).cell c.op.key=some ⟨0,0,false⟩:=by simp[Txn.cell,List.lookup]
  obtain⟨a0,a1,a2⟩:=r2.cel ht2 hx2;have z0:=r2.celF ht2 hx2 0;have z2:=r2.celF ht2 hx2 2;obtain⟨r3,g3⟩:=r2.celSet ht2 hx2 ⟨link,0,false⟩ 0 (zu (link:Int)) rfl;have e3:=takeKey_cell ht1 c.op.key ⟨0,0,false⟩ ⟨link,0,false⟩ hx;rw[txn_get ht2] at e3;rw[e3] at r3;have ht3:=takeKey_txn ht1 c.op.key ⟨link,0,false⟩;have hx3:({t with cells:=(c.op.key,(⟨link,0,false⟩:Cel))::t.cells,keys:=t.keys++[c.op.key]}:Txn).cell c.op.key=some ⟨link,0,false⟩:=by simp[Txn.cell,List.lookup]
  obtain⟨r4,g4⟩:=r3.celSet ht3 hx3 ⟨link,0,true⟩ 2 (.bool true) rfl;have e4:=takeKey_cell ht1 c.op.key ⟨link,0,false⟩ ⟨link,0,true⟩ hx;rw[txn_get ht3] at e4;rw[e4] at r4;rw[hbx] at a0 a2 z0 z2 g3 r4 g4;have g5:=((g1.trans g2).trans g3).trans g4;have he:=ends_at r4 s {} 0 0 0 0 (.slice none 0 0) rfl (.inr ⟨rfl,rfl⟩);rw[st.be,st.bc] at he;exact⟨a0,z0,a2,z2,(B3.grow (g1.trans g2)).cell,(B0.grow g5).cell,(B1.grow g5).cell,he,g5⟩
 clear hR ht hc hk hx hkl hcnt B0 B1 B2 B3 B4 hm hrun hb hcs;generalize (σ.put (9+c.op.key) link).takeKey s c.op.key ⟨0,0,false⟩=σ1 at*;generalize (σ.put (9+c.op.key) link).takeKey s c.op.key ⟨link,0,true⟩=σ2 at*;generalize c.op.key=key at*;go_enter Tryz.func305,Tryz.ntmps305;go_wp2_with fail;refine wp_region_still_tail 12 (by kernel_rfl) (by kernel_rfl) ?_;simp only[zta,ztb,ztc,ztd]
 repeat still_step
 refine wpStill_nil ?_;change wpList _ _ _ _ _ w.drew;generalize w.drew=wd at*;go_wp2_with (go_at_call 69;refine HL.out.mono ?_;rintro e w1 ⟨rfl,q1,q2⟩;have g1:=HG.out.trans q2;obtain⟨hf,d1,d4,d5⟩:=HB.out w1 q1 g1;have HQ:=zH (zA hf (g1.trans (Grow.drew _ _)));clear q1 q2 g1 hf);refine wp_region_still_tail 6 (by kernel_rfl) (by kernel_rfl) ?_;simp only[zta,ztb,ztc,ztd]
 repeat still_step
 refine wpStill_nil ?_;change wpList _ _ _ _ _ w1.drew;generalize w1.drew=wd1 at*;go_wp2_with (first|(go_at_call 288;refine HQ.out.1.mono ?_;rintro e w2 ⟨b,rfl,A1,r2,g2,st,hbx,hvp⟩;obtain⟨a0,z0,a2,z2,d3,y0,y1,he,g5⟩:=HE.out _ w2 A1 b HQ.out.2 r2 g2 st hbx hvp;have HZ:=zH (zA he (zA g5 st));clear r2 g2 st hbx hvp he g5)|(go_at_call 195;refine HZ.out.1.mono ?_;rintro e w3 ⟨A2,v,rfl,p1,p2,p3,p4⟩));go_ret;exact⟨A2,v,rfl,p1,HZ.out.2.1.trans p2,HZ.out.2.2.trans p3,p4⟩
theorem k_pushC (hR:Rep A σ w) (s:Nat) (t:Txn) (ht:σ.txns.getD s none=some t) (c:Cal) (hc:σ.calls.getD s none=some c) (link head:Nat) (hk:c.op.key<64) (hx:t.cell c.op.key=none) (hkl:t.keys.length<1000000) (hcnt:σ.count<4000000000000000000) (b0 b1 b2 b3 b4:Nat)
 (B0:Box A.L w b0 (.pointer (some ⟨A.be,0,none⟩))) (B1:Box A.L w b1 (.pointer (some ⟨A.bc s,0,none⟩))) (B2:Box A.L w b2 (zu (head:Int))) (B3:Box A.L w b3 (zu (link:Int))) (B4:Box A.L w b4 (.pointer (some ⟨A.bt s,0,none⟩))):
 Calls Tryz.prog 305 #[.pointer (some ⟨b0,0,none⟩),.pointer (some ⟨b1,0,none⟩),.pointer (some ⟨b2,0,none⟩),.pointer (some ⟨b3,0,none⟩),.pointer (some ⟨b4,0,none⟩)] w (Ran A w s (σ.run s (.pushC link head))):=by
 by_cases hm:σ.word (9+c.op.key)=head
 · exact k_pushC_hit hR s t ht c hc link head hk hx hkl hcnt b0 b1 b2 b3 b4 B0 B1 B2 B3 B4 hm
 · exact k_pushC_miss hR s t ht c hc link head hk hx hkl hcnt b0 b1 b2 b3 b4 B0 B1 B2 B3 B4 hm
theorem k_drawH (hR:Rep A σ w) (s:Nat) (x now:Nat) (hx:x<18446744073709551616) (hi:lastOf x≤2000) (hcnt:σ.count<4000000000000000000) (b0 b1 b2:Nat)
 (B0:Box A.L w b0 (.pointer (some ⟨A.be,0,none⟩))) (B1:Box A.L w b1 (zu (x:Int))) (B2:TurnBox (kp A σ s) A.L w b2 x now):
 Calls Tryz.prog 205 #[.pointer (some ⟨b0,0,none⟩),.pointer (some ⟨b1,0,none⟩),.pointer (some ⟨b2,0,none⟩)] w (Ran A w s (σ.run s (.drawH x now))):=by
 have c0:=B0.cell;have c1:=B1.cell;have HH:=zH (help_any hR x hx hi hcnt);obtain⟨tv,X2,m0,m1,m2,m3,m4,htv,N0,N1,N2,N3,N4⟩:=B2;have HB:Hid (∀ w1,Grow A.L w A.L w1→w1.cell? ⟨b2,0,none⟩=some tv):=fun w1 g=>(X2.grow g).cell
 have HN:=zH (zA N0 (zA N1 (zA N2 (zA N3 N4))));have hrun:σ.run s (.drawH x now)=(σ.help x,some (.turn x now)):=rfl;rw[hrun];clear hR hx hi hcnt B0 B1 X2 N0 N1 N2 N3 N4 hrun;subst htv;go_enter Tryz.func205,Tryz.ntmps205;go_wp2_with (go_at_call 68;refine HH.out.mono ?_;rintro e w1 ⟨rfl,q1,q2⟩;have d2:=HB.out w1 q2;have HQ:=zH (zA q1 q2);clear q1 q2);go_ret;obtain⟨q1,q2⟩:=HQ.out;obtain⟨N0,N1,N2,N3,N4⟩:=HN.out;exact⟨A,_,rfl,q1,q2,Stay.refl _ _,_,_,_,_,_,rfl,N0.grow q2,N1.grow q2,N2.grow q2,N3.grow q2,N4.grow q2⟩
theorem k_draw_over (hR:Rep A σ w) (s:Nat) (hx:σ.word 0<18446744073709551616) (hcnt:σ.count<4000000000000000000) (b0 b1 b2:Nat)
 (B0:Box A.L w b0 (.pointer (some ⟨A.be,0,none⟩))) (B1:Box A.L w b1 (.pointer (some ⟨A.bt s,0,none⟩))) (B2:Box A.L w b2 (.pointer (some ⟨A.bc s,0,none⟩))) (ho:σ.limit≤timeOf (σ.word 0)):
 Calls Tryz.prog 201 #[.pointer (some ⟨b0,0,none⟩),.pointer (some ⟨b1,0,none⟩),.pointer (some ⟨b2,0,none⟩)] w (Ran A w s (σ.run s .draw)):=by
 have c0:=B0.cell;have e2:=hR.z2;have HL:=zH (load_i hR 0 0 rfl (by rw[hR.nw];omega) hcnt);have HD:=zH (fun w'=>drawn_any (σ.word 0) hx w');have HB:Hid (∀ w1,Rep A σ.tick w1→Grow A.L w A.L w1→∀ W3,(w1.alloc (.cells #[zu (σ.word 0:Int)] 33)).alloc (.cells #[zu (timeOf (σ.word 0):Int)] 33)=W3→∀ n w5,W3.drewN n=w5→Rep A σ.tick w5∧Grow A.L w A.L w5∧Fix A.L w5 w1.heap.size (.cells #[zu (σ.word 0:Int)] 33)∧Fix A.L w5 (w1.heap.size+1) (.cells #[zu (timeOf (σ.word 0):Int)] 33)∧w5.cell? ⟨b0,0,none⟩=some (.pointer (some ⟨A.be,0,none⟩))∧w5.cell? ⟨b1,0,none⟩=some (.pointer (some ⟨A.bt s,0,none⟩))∧w5.cell? ⟨b2,0,none⟩=some (.pointer (some ⟨A.bc s,0,none⟩))∧w5.cell? ⟨A.be,1,none⟩=some (zu (σ.limit:Int))∧W3.cell? ⟨w1.heap.size,0,none⟩=some (zu (σ.word 0:Int))∧W3.cell? ⟨w1.heap.size+1,0,none⟩=some (zu (timeOf (σ.word 0):Int))∧W3.cell? ⟨b0,0,none⟩=some (.pointer (some ⟨A.be,0,none⟩))∧W3.cell? ⟨A.be,1,none⟩=some (zu (σ.limit:Int))):=by
  rintro w1 q1 q2 W3 rfl n w5 rfl;obtain⟨r3,g3,f0,f1⟩:=allocs2 q1 #[zu (σ.word 0:Int)] 33 #[zu (timeOf (σ.word 0):Int)] 33;have gd:=Grow.drewN A.L ((w1.alloc (.cells #[zu (σ.word 0:Int)] 33)).alloc (.cells #[zu (timeOf (σ.word 0):Int)] 33)) n;have gg:=(q2.trans g3).trans gd;exact⟨r3.drewN n,gg,f0.grow gd,f1.grow gd,(B0.grow gg).cell,(B1.grow gg).cell,(B2.grow gg).cell,(r3.drewN n).eng 1 rfl,f0.cell 0 rfl,f1.cell 0 rfl,(B0.grow (q2.trans g3)).cell,r3.eng 1 rfl⟩
 have HX:=zH (zA B0 (zA B1 B2));have hrun:σ.run s .draw=(σ.tick,some (.abort 14 6)):=by simp only[St.run];exact if_pos ho
 rw[hrun];clear hR hx hcnt B0 B1 B2 hrun;generalize σ.word 0=x at*;generalize timeOf x=now at*;generalize lastOf x=last at*;generalize σ.limit=lim at*;have d1:decide ((lim:Int)≤(now:Int))=true:=by simpa using ho
 have d2:((lim:Int)≤(now:Int))=True:=by simpa using ho
 have d3:(lim≤now)=True:=by simpa using ho
 clear ho;go_enter Tryz.func201,Tryz.ntmps201;go_wp2_with (first|(go_at_call 66;refine HL.out.mono ?_;rintro e w1 ⟨rfl,q1,q2⟩;obtain⟨_,_,_,_,_,_,_,_,y1,y2,y3,y4⟩:=HB.out w1 q1 q2 _ rfl 0 _ rfl;have HQ:=zH (zA q1 q2);clear q1 q2)|(go_at_call 67;refine (HD.out _).mono ?_;rintro e w' ⟨rfl,rfl⟩));generalize hw3:(w1.alloc _).alloc _=w3 at*
 go_quiet (fail)
 generalize hw5:w3.drewN _=w5;obtain⟨r5,g5,f0,f1,z0,z1,z2,z3,_⟩:=HB.out w1 HQ.out.1 HQ.out.2 w3 hw3 _ w5 hw5;clear y1 y2 y3 y4 hw3 hw5;have ha:Calls Tryz.prog 170 #[.pointer (some ⟨A.be,0,none⟩),.pointer (some ⟨A.bt s,0,none⟩),.pointer (some ⟨A.bc s,0,none⟩),zi 14,zi 6] w5 (Tells A w5 s (σ.tick,.abort 14 6)):=abort_any r5 s 14 6;have HA:=zH (zA ha g5);clear r5 g5 f0 f1 ha;go_wp2_with (go_at_call 170;refine HA.out.1.mono ?_;rintro e w2 ⟨A2,v,rfl,p1,p2,p3,p4⟩);go_ret;exact⟨A2,v,rfl,p1,HA.out.2.trans p2,p3,p4⟩
theorem k_draw_turn (hR:Rep A σ w) (s:Nat) (hx:σ.word 0<18446744073709551616) (hcnt:σ.count<4000000000000000000) (b0 b1 b2:Nat)
 (B0:Box A.L w b0 (.pointer (some ⟨A.be,0,none⟩))) (B1:Box A.L w b1 (.pointer (some ⟨A.bt s,0,none⟩))) (B2:Box A.L w b2 (.pointer (some ⟨A.bc s,0,none⟩))) (ho:¬ σ.limit≤timeOf (σ.word 0)) (hl:lastOf (σ.word 0)=0):
 Calls Tryz.prog 201 #[.pointer (some ⟨b0,0,none⟩),.pointer (some ⟨b1,0,none⟩),.pointer (some ⟨b2,0,none⟩)] w (Ran A w s (σ.run s .draw)):=by
 have c0:=B0.cell;have e2:=hR.z2;have HL:=zH (load_i hR 0 0 rfl (by rw[hR.nw];omega) hcnt);have HD:=zH (fun w'=>drawn_any (σ.word 0) hx w');have HB:Hid (∀ w1,Rep A σ.tick w1→Grow A.L w A.L w1→∀ W3,(w1.alloc (.cells #[zu (σ.word 0:Int)] 33)).alloc (.cells #[zu (timeOf (σ.word 0):Int)] 33)=W3→∀ n w5,W3.drewN n=w5→Rep A σ.tick w5∧Grow A.L w A.L w5∧Fix A.L w5 w1.heap.size (.cells #[zu (σ.word 0:Int)] 33)∧Fix A.L w5 (w1.heap.size+1) (.cells #[zu (timeOf (σ.word 0):Int)] 33)∧w5.cell? ⟨b0,0,none⟩=some (.pointer (some ⟨A.be,0,none⟩))∧w5.cell? ⟨b1,0,none⟩=some (.pointer (some ⟨A.bt s,0,none⟩))∧w5.cell? ⟨b2,0,none⟩=some (.pointer (some ⟨A.bc s,0,none⟩))∧w5.cell? ⟨A.be,1,none⟩=some (zu (σ.limit:Int))∧W3.cell? ⟨w1.heap.size,0,none⟩=some (zu (σ.word 0:Int))∧W3.cell? ⟨w1.heap.size+1,0,none⟩=some (zu (timeOf (σ.word 0):Int))∧W3.cell? ⟨b0,0,none⟩=some (.pointer (some ⟨A.be,0,none⟩))∧W3.cell? ⟨A.be,1,none⟩=some (zu (σ.limit:Int))):=by
  rintro w1 q1 q2 W3 rfl n w5 rfl;obtain⟨r3,g3,f0,f1⟩:=allocs2 q1 #[zu (σ.word 0:Int)] 33 #[zu (timeOf (σ.word 0):Int)] 33;have gd:=Grow.drewN A.L ((w1.alloc (.cells #[zu (σ.word 0:Int)] 33)).alloc (.cells #[zu (timeOf (σ.word 0):Int)] 33)) n;have gg:=(q2.trans g3).trans gd;exact⟨r3.drewN n,gg,f0.grow gd,f1.grow gd,(B0.grow gg).cell,(B1.grow gg).cell,(B2.grow gg).cell,(r3.drewN n).eng 1 rfl,f0.cell 0 rfl,f1.cell 0 rfl,(B0.grow (q2.trans g3)).cell,r3.eng 1 rfl⟩
 have HX:=zH (zA B0 (zA B1 B2));have hrun:σ.run s .draw=(σ.tick,some (.turn (σ.word 0) (timeOf (σ.word 0)))):=by simp only[St.run];rw[if_neg (show ¬ σ.tick.limit≤_ from ho),if_pos hl]
 rw[hrun];clear hR hx hcnt B0 B1 B2 hrun;generalize σ.word 0=x at*;generalize timeOf x=now at*;generalize lastOf x=last at*;generalize σ.limit=lim at*;have d1:decide ((lim:Int)≤(now:Int))=false:=by simpa using ho
 have d2:((lim:Int)≤(now:Int))=False:=by simpa using ho
 have d3:(lim≤now)=False:=by simpa using ho
 have l1:((last:Int)==0)=true:=by simpa using hl
 have l2:((last:Int)=0)=True:=by simpa using hl
 clear ho hl;go_enter Tryz.func201,Tryz.ntmps201;go_wp2_with (first|(go_at_call 66;refine HL.out.mono ?_;rintro e w1 ⟨rfl,q1,q2⟩;obtain⟨_,_,_,_,_,_,_,_,y1,y2,y3,y4⟩:=HB.out w1 q1 q2 _ rfl 0 _ rfl;have HQ:=zH (zA q1 q2);clear q1 q2)|(go_at_call 67;refine (HD.out _).mono ?_;rintro e w' ⟨rfl,rfl⟩));generalize hw3:(w1.alloc _).alloc _=w3 at*
 go_quiet (fail)
 generalize hw5:w3.drewN _=w5;obtain⟨r5,g5,f0,f1,z0,z1,z2,z3,_⟩:=HB.out w1 HQ.out.1 HQ.out.2 w3 hw3 _ w5 hw5;clear y1 y2 y3 y4 hw3 hw5;obtain⟨r6,g6,f2⟩:=allocs1 r5 #[.func (.func 202) #[] #[.pointer (some ⟨b0,0,none⟩),.pointer (some ⟨w1.heap.size,0,none⟩),.pointer (some ⟨w1.heap.size+1,0,none⟩),.pointer (some ⟨b1,0,none⟩),.pointer (some ⟨b2,0,none⟩)]] 234;have u7:=f2.cell 0 (v:=.func (.func 202) #[] #[.pointer (some ⟨b0,0,none⟩),.pointer (some ⟨w1.heap.size,0,none⟩),.pointer (some ⟨w1.heap.size+1,0,none⟩),.pointer (some ⟨b1,0,none⟩),.pointer (some ⟨b2,0,none⟩)]) rfl;have HZ:=zH (zA r6 (zA (g5.trans g6) (zA (f0.grow g6) (zA (f1.grow g6) f2))));clear r5 g5 f0 f1 r6 g6 f2;go_wp2_with fail;go_ret;obtain⟨r6,g6,f0,f1,f2⟩:=HZ.out;obtain⟨B0,B1,B2⟩:=HX.out;exact⟨A,_,rfl,r6,g6,Stay.refl _ _,_,_,_,_,_,rfl,B0.grow g6,f0.box,f1.box,B1.grow g6,B2.grow g6⟩
theorem k_draw_help (hR:Rep A σ w) (s:Nat) (hx:σ.word 0<18446744073709551616) (hcnt:σ.count<4000000000000000000) (b0 b1 b2:Nat)
 (B0:Box A.L w b0 (.pointer (some ⟨A.be,0,none⟩))) (B1:Box A.L w b1 (.pointer (some ⟨A.bt s,0,none⟩))) (B2:Box A.L w b2 (.pointer (some ⟨A.bc s,0,none⟩))) (ho:¬ σ.limit≤timeOf (σ.word 0)) (hl:lastOf (σ.word 0)≠0):
 Calls Tryz.prog 201 #[.pointer (some ⟨b0,0,none⟩),.pointer (some ⟨b1,0,none⟩),.pointer (some ⟨b2,0,none⟩)] w (Ran A w s (σ.run s .draw)):=by
 have c0:=B0.cell;have e2:=hR.z2;have HL:=zH (load_i hR 0 0 rfl (by rw[hR.nw];omega) hcnt);have HD:=zH (fun w'=>drawn_any (σ.word 0) hx w');have HB:Hid (∀ w1,Rep A σ.tick w1→Grow A.L w A.L w1→∀ W3,(w1.alloc (.cells #[zu (σ.word 0:Int)] 33)).alloc (.cells #[zu (timeOf (σ.word 0):Int)] 33)=W3→∀ n w5,W3.drewN n=w5→Rep A σ.tick w5∧Grow A.L w A.L w5∧Fix A.L w5 w1.heap.size (.cells #[zu (σ.word 0:Int)] 33)∧Fix A.L w5 (w1.heap.size+1) (.cells #[zu (timeOf (σ.word 0):Int)] 33)∧w5.cell? ⟨b0,0,none⟩=some (.pointer (some ⟨A.be,0,none⟩))∧w5.cell? ⟨b1,0,none⟩=some (.pointer (some ⟨A.bt s,0,none⟩))∧w5.cell? ⟨b2,0,none⟩=some (.pointer (some ⟨A.bc s,0,none⟩))∧w5.cell? ⟨A.be,1,none⟩=some (zu (σ.limit:Int))∧W3.cell? ⟨w1.heap.size,0,none⟩=some (zu (σ.word 0:Int))∧W3.cell? ⟨w1.heap.size+1,0,none⟩=some (zu (timeOf (σ.word 0):Int))∧W3.cell? ⟨b0,0,none⟩=some (.pointer (some ⟨A.be,0,none⟩))∧W3.cell? ⟨A.be,1,none⟩=some (zu (σ.limit:Int))):=by
  rintro w1 q1 q2 W3 rfl n w5 rfl;obtain⟨r3,g3,f0,f1⟩:=allocs2 q1 #[zu (σ.word 0:Int)] 33 #[zu (timeOf (σ.word 0):Int)] 33;have gd:=Grow.drewN A.L ((w1.alloc (.cells #[zu (σ.word 0:Int)] 33)).alloc (.cells #[zu (timeOf (σ.word 0):Int)] 33)) n;have gg:=(q2.trans g3).trans gd;exact⟨r3.drewN n,gg,f0.grow gd,f1.grow gd,(B0.grow gg).cell,(B1.grow gg).cell,(B2.grow gg).cell,(r3.drewN n).eng 1 rfl,f0.cell 0 rfl,f1.cell 0 rfl,(B0.grow (q2.trans g3)).cell,r3.eng 1 rfl⟩
 have HX:=zH (zA B0 (zA B1 B2));have hrun:σ.run s .draw=(σ.tick,some (.drawH (σ.word 0) (timeOf (σ.word 0)))):=by simp only[St.run];rw[if_neg (show ¬ σ.tick.limit≤_ from ho),if_neg hl]
 rw[hrun];clear hR hx hcnt B0 B1 B2 hrun;generalize σ.word 0=x at*;generalize timeOf x=now at*;generalize lastOf x=last at*;generalize σ.limit=lim at*;have d1:decide ((lim:Int)≤(now:Int))=false:=by simpa using ho
 have d2:((lim:Int)≤(now:Int))=False:=by simpa using ho
 have d3:(lim≤now)=False:=by simpa using ho
 have l1:((last:Int)==0)=false:=by simpa using hl
 have l2:((last:Int)=0)=False:=by simpa using hl
 clear ho hl;go_enter Tryz.func201,Tryz.ntmps201;go_wp2_with (first|(go_at_call 66;refine HL.out.mono ?_;rintro e w1 ⟨rfl,q1,q2⟩;obtain⟨_,_,_,_,_,_,_,_,y1,y2,y3,y4⟩:=HB.out w1 q1 q2 _ rfl 0 _ rfl;have HQ:=zH (zA q1 q2);clear q1 q2)|(go_at_call 67;refine (HD.out _).mono ?_;rintro e w' ⟨rfl,rfl⟩));generalize hw3:(w1.alloc _).alloc _=w3 at*
 go_quiet (fail)
 generalize hw5:w3.drewN _=w5;obtain⟨r5,g5,f0,f1,z0,z1,z2,z3,_⟩:=HB.out w1 HQ.out.1 HQ.out.2 w3 hw3 _ w5 hw5;clear y1 y2 y3 y4 hw3 hw5;obtain⟨r6,g6,f2⟩:=allocs1 r5 #[.func (.func 202) #[] #[.pointer (some ⟨b0,0,none⟩),.pointer (some ⟨w1.heap.size,0,none⟩),.pointer (some ⟨w1.heap.size+1,0,none⟩),.pointer (some ⟨b1,0,none⟩),.pointer (some ⟨b2,0,none⟩)]] 234;have u7:=f2.cell 0 (v:=.func (.func 202) #[] #[.pointer (some ⟨b0,0,none⟩),.pointer (some ⟨w1.heap.size,0,none⟩),.pointer (some ⟨w1.heap.size+1,0,none⟩),.pointer (some ⟨b1,0,none⟩),.pointer (some ⟨b2,0,none⟩)]) rfl;have HZ:=zH (zA r6 (zA (g5.trans g6) (zA (f0.grow g6) (zA (f1.grow g6) f2))));clear r5 g5 f0 f1 r6 g6 f2;go_wp2_with fail;go_ret;obtain⟨r6,g6,f0,f1,f2⟩:=HZ.out;obtain⟨B0,B1,B2⟩:=HX.out;exact⟨A,_,rfl,r6,g6,Stay.refl _ _,_,_,_,rfl,B0.grow g6,f0.box,_,f2.box,_,_,_,_,_,rfl,B0.grow g6,f0.box,f1.box,B1.grow g6,B2.grow g6⟩
theorem k_draw (hR:Rep A σ w) (s:Nat) (hx:σ.word 0<18446744073709551616) (hcnt:σ.count<4000000000000000000) (b0 b1 b2:Nat)
 (B0:Box A.L w b0 (.pointer (some ⟨A.be,0,none⟩))) (B1:Box A.L w b1 (.pointer (some ⟨A.bt s,0,none⟩))) (B2:Box A.L w b2 (.pointer (some ⟨A.bc s,0,none⟩))):
 Calls Tryz.prog 201 #[.pointer (some ⟨b0,0,none⟩),.pointer (some ⟨b1,0,none⟩),.pointer (some ⟨b2,0,none⟩)] w (Ran A w s (σ.run s .draw)):=by
 by_cases ho:σ.limit≤timeOf (σ.word 0)
 · exact k_draw_over hR s hx hcnt b0 b1 b2 B0 B1 B2 ho
 · by_cases hl:lastOf (σ.word 0)=0
   · exact k_draw_turn hR s hx hcnt b0 b1 b2 B0 B1 B2 ho hl
   · exact k_draw_help hR s hx hcnt b0 b1 b2 B0 B1 B2 ho hl
theorem k_turn_miss (hR:Rep A σ w) (s:Nat) (t:Txn) (ht:σ.txns.getD s none=some t) (x now:Nat) (hn:now<281474976710655) (hid:t.id<65536) (htl:σ.tale.length<1000000) (hcnt:σ.count<4000000000000000000) (b0 b1 b2 b3 b4:Nat)
 (B0:Box A.L w b0 (.pointer (some ⟨A.be,0,none⟩))) (B1:Box A.L w b1 (zu (x:Int))) (B2:Box A.L w b2 (zu (now:Int))) (B3:Box A.L w b3 (.pointer (some ⟨A.bt s,0,none⟩))) (B4:Box A.L w b4 (.pointer (some ⟨A.bc s,0,none⟩))) (hm:σ.word 0≠x):
 Calls Tryz.prog 202 #[.pointer (some ⟨b0,0,none⟩),.pointer (some ⟨b1,0,none⟩),.pointer (some ⟨b2,0,none⟩),.pointer (some ⟨b3,0,none⟩),.pointer (some ⟨b4,0,none⟩)] w (Ran A w s (σ.run s (.turn x now))):=by
 have c0:=B0.cell;have c1:=B1.cell;have c2:=B2.cell;have c3:=B3.cell;have e2:=hR.z2;have t0:w.cell? ⟨A.bt s,0,none⟩=some (zi (t.id:Int)):=hR.txn ht 0 rfl;have n1:IntKind.u64.wrap ((now:Int)+1)=(now:Int)+1:=by rw[IntKind.wrap_u64];omega
 have hk:Calls Tryz.prog 70 #[zu ((now:Int)+1),zi (t.id:Int)] w.drew fun e w'=>e=.returned (zu ((clockW (now+1) t.id:Nat):Int))∧w'=w.drew:=flip (clock_any (now+1) t.id (by omega) hid w.drew)
 have HC:=zH hk;have HL:=zH (cas_i hR.drew 0 x (clockW (now+1) t.id) 0 rfl (by rw[hR.nw];omega) hcnt);have HG:=zG A.L w;have hrun:σ.run s (.turn x now)=(σ.tick,some .draw):=by simp[St.run,St.cas,hm]
 rw[hrun];have hb:(σ.word 0==x)=false:=by simpa using hm
 have hcs:σ.cas 0 x (clockW (now+1) t.id)=σ.tick:=if_neg hm;rw[hb,hcs] at HL;have HB:Hid (∀ w1,Rep A σ.tick w1→Grow A.L w A.L w1→Calls Tryz.prog 169 #[.pointer (some ⟨A.be,0,none⟩),.pointer (some ⟨A.bt s,0,none⟩),.pointer (some ⟨A.bc s,0,none⟩)] w1 (Tells A w1 s (σ.tick,.draw))∧w1.cell? ⟨b0,0,none⟩=some (.pointer (some ⟨A.be,0,none⟩))∧w1.cell? ⟨b3,0,none⟩=some (.pointer (some ⟨A.bt s,0,none⟩))∧w1.cell? ⟨b4,0,none⟩=some (.pointer (some ⟨A.bc s,0,none⟩))):=
  fun w1 q g=>⟨draw_any q s,(B0.grow g).cell,(B3.grow g).cell,(B4.grow g).cell⟩
 clear hR ht hn hid htl hcnt B0 B1 B2 B3 B4 hm hrun hb hcs hk;go_enter Tryz.func202,Tryz.ntmps202;go_wp2_with fail;refine wp_region_still_tail 12 (by kernel_rfl) (by kernel_rfl) ?_;simp only[zta,ztb,ztc,ztd]
 repeat still_step
 still_call HC.out
 refine wpStill_nil ?_;change wpList _ _ _ _ _ w.drew;generalize w.drew=wd at*;go_wp2_with (first|(go_at_call 69;refine HL.out.mono ?_;rintro e w1 ⟨rfl,q1,q2⟩;have g1:=HG.out.trans q2;obtain⟨hf,d0,d3,d4⟩:=HB.out w1 q1 g1;have HQ:=zH (zA hf g1);clear q1 q2 g1 hf)|(go_at_call 169;refine HQ.out.1.mono ?_;rintro e w2 ⟨A2,v,rfl,p1,p2,p3,p4⟩));go_ret;exact⟨A2,v,rfl,p1,HQ.out.2.trans p2,p3,p4⟩
theorem k_turn_hit (hR:Rep A σ w) (s:Nat) (t:Txn) (ht:σ.txns.getD s none=some t) (x now:Nat) (hn:now<281474976710655) (hid:t.id<65536) (htl:σ.tale.length<1000000) (hcnt:σ.count<4000000000000000000) (b0 b1 b2 b3 b4:Nat)
 (B0:Box A.L w b0 (.pointer (some ⟨A.be,0,none⟩))) (B1:Box A.L w b1 (zu (x:Int))) (B2:Box A.L w b2 (zu (now:Int))) (B3:Box A.L w b3 (.pointer (some ⟨A.bt s,0,none⟩))) (B4:Box A.L w b4 (.pointer (some ⟨A.bc s,0,none⟩))) (hm:σ.word 0=x):
 Calls Tryz.prog 202 #[.pointer (some ⟨b0,0,none⟩),.pointer (some ⟨b1,0,none⟩),.pointer (some ⟨b2,0,none⟩),.pointer (some ⟨b3,0,none⟩),.pointer (some ⟨b4,0,none⟩)] w (Ran A w s (σ.run s (.turn x now))):=by
 have c0:=B0.cell;have c1:=B1.cell;have c2:=B2.cell;have c3:=B3.cell;have e2:=hR.z2;have t0:w.cell? ⟨A.bt s,0,none⟩=some (zi (t.id:Int)):=hR.txn ht 0 rfl;have n1:IntKind.u64.wrap ((now:Int)+1)=(now:Int)+1:=by rw[IntKind.wrap_u64];omega
 have hk:Calls Tryz.prog 70 #[zu ((now:Int)+1),zi (t.id:Int)] w.drew fun e w'=>e=.returned (zu ((clockW (now+1) t.id:Nat):Int))∧w'=w.drew:=flip (clock_any (now+1) t.id (by omega) hid w.drew)
 have HC:=zH hk;have HL:=zH (cas_i hR.drew 0 x (clockW (now+1) t.id) 0 rfl (by rw[hR.nw];omega) hcnt);have HG:=zG A.L w;have hrun:σ.run s (.turn x now)=(((σ.put 0 (clockW (now+1) t.id)).setT s {t with end_:=now+1}).event {kind:=3,t:=t.id,n:=now+1},some .helpJ):=by
  have e:∀ σ':St,σ'.txns=σ.txns→σ'.t s=t:=fun σ' h=>by unfold St.t;rw[h,ht];rfl
  simp[St.run,St.cas,hm,e _ (show (σ.put 0 (clockW (now+1) t.id)).txns=σ.txns from rfl),e σ rfl]
 rw[hrun];have hb:(σ.word 0==x)=true:=by simpa using hm
 have hcs:σ.cas 0 x (clockW (now+1) t.id)=σ.put 0 (clockW (now+1) t.id):=if_pos hm;rw[hb,hcs] at HL
 have HB : Hid (∀ w1, Rep A (σ.put 0 (clockW (now + 1) t.id)) w1 → Grow A.L w A.L w1 → w1.cell? ⟨b2, 0, none⟩ = some (zu (now : Int)) ∧ w1.cell? ⟨b3, 0, none⟩ = some (.pointer (some ⟨A.bt s, 0, none⟩)) ∧ w1.cell? ⟨A.bt s, 4, none⟩ = some (zu (t.end_ : Int)) ∧ w1.frozen? ⟨A.bt s, 4, none⟩ = false ∧
     (∀ ws, w1.setCell ⟨A.bt s, 4, none⟩ (zu ((now : Int) + 1)) = ws → ws.cell? ⟨b0, 0, none⟩ = some (.pointer (some ⟨A.be, 0, none⟩)) ∧ ws.cell? ⟨b3, 0, none⟩ = some (.pointer (some ⟨A.bt s, 0, none⟩)) ∧ ws.cell? ⟨A.bt s, 0, none⟩ = some (zi (t.id : Int)) ∧ ws.cell? ⟨A.bt s, 4, none⟩ = some (zu ((now : Int) + 1)) ∧ Grow A.L w A.L ws ∧
       Calls Tryz.prog 74 #[.pointer (some ⟨A.be,0,none⟩),.agg #[zi 3,zi (t.id:Int),zu ((now:Int)+1),zi 0,zi 0,zi 0,zi 0,zi 0,zi 0,.slice none 0 0,zi 0,zi 0]] ws.drew (Does A ws.drew s (((σ.put 0 (clockW (now+1) t.id)).setT s {t with end_:=now+1}).event {kind:=3,t:=t.id,n:=now+1}) (.tuple #[])))):=by
  intro w1 q g;have ht1:(σ.put 0 (clockW (now+1) t.id)).txns.getD s none=some t:=ht;refine⟨(B2.grow g).cell,(B3.grow g).cell,q.txn ht1 4 rfl,q.txnF ht1 4,?_⟩;rintro ws rfl;obtain⟨r2,g2⟩:=q.setTxn ht1 {t with end_:=now+1} 4 (zu ((now:Int)+1)) (by simp[txnCs]) rfl rfl rfl rfl;have ht2:((σ.put 0 (clockW (now+1) t.id)).setT s {t with end_:=now+1}).txns.getD s none=some {t with end_:=now+1}:=by rw[getT_set (lt_of_txn ht1),if_pos rfl]
  have gg:=g.trans g2;exact⟨(B0.grow gg).cell,(B3.grow gg).cell,r2.txn ht2 0 rfl,r2.txn ht2 4 rfl,gg,event_any r2.drew s _ 3 t.id (now+1) 0 0 0 0 0 0 0 0 none 0 0 rfl (PRow.nil _ _) htl⟩
 have HX:=zH (zA B0 (zA B3 B4));clear hR ht hn hid htl hcnt B0 B1 B2 B3 B4 hm hrun hb hcs hk;go_enter Tryz.func202,Tryz.ntmps202;go_wp2_with fail;refine wp_region_still_tail 12 (by kernel_rfl) (by kernel_rfl) ?_;simp only[zta,ztb,ztc,ztd]
 repeat still_step
 still_call HC.out
 refine wpStill_nil ?_;change wpList _ _ _ _ _ w.drew;generalize w.drew=wd at*;go_wp2_with (go_at_call 69;refine HL.out.mono ?_;rintro e w1 ⟨rfl,q1,q2⟩;have g1:=HG.out.trans q2;obtain⟨d2,d3,d4,d5,hf⟩:=HB.out w1 q1 g1;have HQ:=zH hf;clear q1 q2 g1 hf);generalize hws:World.setCell _ _ _=ws;obtain⟨a0,a3,a5,a4,gg,hf⟩:=HQ.out ws hws;have HE:=zH (zA hf gg);clear d2 d3 d4 d5 hf gg hws HQ;refine wp_region_still_tail 10 (by kernel_rfl) (by kernel_rfl) ?_;simp only[zta,ztb,ztc,ztd]
 repeat still_step
 refine wpStill_nil ?_;change wpList _ _ _ _ _ ws.drew;have HG2:Hid (Grow A.L ws A.L ws.drew):=Grow.drew _ _;generalize ws.drew=wd2 at*;go_wp2_with (go_at_call 74;refine HE.out.1.mono ?_;rintro e w2 ⟨rfl,A2,p1,p2,p3,p4,p5⟩;have HR:=zH (zA p1 (zA p2 (zA p3 (zA p4 p5))));clear p1 p2 p3 p4 p5);go_ret;obtain⟨p1,p2,p3,p4,p5⟩:=HR.out;obtain⟨B0,B3,B4⟩:=HX.out;have g3:=(HE.out.2.trans HG2.out).trans p2;refine⟨A2,_,rfl,p1,g3,p3,?_⟩;have ek:kp A2 (((σ.put 0 (clockW (now+1) t.id)).setT s {t with end_:=now+1}).event {kind:=3,t:=t.id,n:=now+1}) s=kp A σ s:=kp_same p3 p4 p5 rfl rfl;show KRep (kp A2 _ s) _ _ _ _;rw[ek];exact⟨_,_,_,rfl,B0.grow g3,B3.grow g3,B4.grow g3⟩
theorem k_turn (hR:Rep A σ w) (s:Nat) (t:Txn) (ht:σ.txns.getD s none=some t) (x now:Nat) (hn:now<281474976710655) (hid:t.id<65536) (htl:σ.tale.length<1000000) (hcnt:σ.count<4000000000000000000) (b0 b1 b2 b3 b4:Nat)
 (B0:Box A.L w b0 (.pointer (some ⟨A.be,0,none⟩))) (B1:Box A.L w b1 (zu (x:Int))) (B2:Box A.L w b2 (zu (now:Int))) (B3:Box A.L w b3 (.pointer (some ⟨A.bt s,0,none⟩))) (B4:Box A.L w b4 (.pointer (some ⟨A.bc s,0,none⟩))):
 Calls Tryz.prog 202 #[.pointer (some ⟨b0,0,none⟩),.pointer (some ⟨b1,0,none⟩),.pointer (some ⟨b2,0,none⟩),.pointer (some ⟨b3,0,none⟩),.pointer (some ⟨b4,0,none⟩)] w (Ran A w s (σ.run s (.turn x now))):=by
 by_cases hm:σ.word 0=x
 · exact k_turn_hit hR s t ht x now hn hid htl hcnt b0 b1 b2 b3 b4 B0 B1 B2 B3 B4 hm
 · exact k_turn_miss hR s t ht x now hn hid htl hcnt b0 b1 b2 b3 b4 B0 B1 B2 B3 B4 hm
theorem PRow.labs {L L':Lab} {w:World} {v:Value} {xs:List Value} (h:PRow L w v xs) {b:Nat} (hL:∀ g,g≠b→L' g=L g) (hb:∀ cs,w.heap[b]? ≠some (.cells cs 172)):PRow L' w v xs:=by
 obtain⟨⟨ad,n,cap,rfl,e2,e3,e4,e5⟩,h2⟩:=h;refine⟨⟨ad,n,cap,rfl,e2,e3,e4,?_⟩,h2⟩
 rcases e5 with h0|⟨g,off,rfl,e7,e8,e9⟩
 · exact .inl h0
 · rcases h2 g off n cap rfl with h0|⟨cs,hc⟩
   · exact .inl h0
   · refine .inr ⟨g,off,rfl,?_,e8,e9⟩
     rw[hL g (by rintro rfl;exact hb _ hc)];exact e7
theorem Evs.labs {L L':Lab} {w:World} {b:Nat} (hL:∀ g,g≠b→L' g=L g) (hb:∀ cs,w.heap[b]? ≠some (.cells cs 172)):∀ {l:List Ev} {xs:List Value},Evs L w l xs→Evs L' w l xs
 |[],_,h=>h
 |_::_,_,⟨vp,ys,h1,h2,h3⟩=>⟨vp,ys,h1,h2.labs hL hb,Evs.labs hL hb h3⟩
theorem Evs.lab {L:Lab} {w:World} {b:Nat} {cs:Array Value} {T:TypeId} {l:List Ev} {xs:List Value} (h:Evs L w l xs) (he:w.heap[b]? =some (.cells cs T)) (hT:T≠172) (r:Role):Evs (lab1 L b r) w l xs:=
 h.labs (fun g hg=>lab1_other hg) (fun cs' hc=>by rw[he] at hc;simp at hc;exact hT hc.2)
theorem Evs.labMap {L:Lab} {w:World} {b:Nat} {es:Array MapEntry} {k:Nat} {l:List Ev} {xs:List Value} (h:Evs L w l xs) (he:w.heap[b]? =some (.map es k)) (r:Role):Evs (lab1 L b r) w l xs:=
 h.labs (fun g hg=>lab1_other hg) (fun cs' hc=>by rw[he] at hc;simp at hc)
theorem Rep.adoptTxn {A:Book} {σ:St} {w w1:World} (h:Rep A σ w1) (g0:Grow A.L w A.L w1) {s b m:Nat} (hfb:A.L b=none) (hfm:A.L m=none) (hs:s<8) (hb:w.heap.size≤b) (hm:w.heap.size≤m) (hbm:b≠m) (t:Txn) (h1:t.keys=[]) (h2:t.cells=[]) (h3:t.reads=[]) (h4:t.bonds=[])
 (he:w1.heap[b]? =some (.cells (txnCs (A.newTxn s b m) s t).toArray 158)) (hmap:w1.heap[m]? =some (.map #[] 0)) (hn:σ.txns.getD s none=none):
 Rep (A.newTxn s b m) (σ.setT s t) (w1.setCell ⟨A.be,5+s,none⟩ (.pointer (some ⟨b,0,none⟩)))∧Grow A.L w (A.newTxn s b m).L (w1.setCell ⟨A.be,5+s,none⟩ (.pointer (some ⟨b,0,none⟩))):=by
 have hlt:b<w1.heap.size:=lt_of he;have hltm:m<w1.heap.size:=lt_of hmap;have n8:=h.n8;have hn2:=hn;rw[List.getD_eq_getElem?_getD] at hn2;have k1:=h.mem.adopt (.txn s) hfb (.obj b (txnCs (A.newTxn s b m) s t) 158) ⟨lab1_same _ _ _,he⟩ hlt;have k2:=k1.adopt (.map s) (b:=m) ((lab1_other (Ne.symm hbm)).trans hfm) (.map m [] 0) ⟨lab1_same _ _ _,hmap⟩ hltm;have hE:(updE (updE (memOf A σ) (.txn s) (.obj b (txnCs (A.newTxn s b m) s t) 158)) (.map s) (.map m [] 0)) .eng=.obj A.be (engCs A σ) 132:=rfl;have k3:=k2.put .eng hE (5+s) (.pointer (some ⟨b,0,none⟩));have g:Grow A.L w (A.newTxn s b m).L (w1.setCell ⟨A.be,5+s,none⟩ (.pointer (some ⟨b,0,none⟩))):=
  ((g0.lab1 hb _).lab1 hm _).trans (k2.grow_set hE (5+s) _)
 have k4 : Holds (A.newTxn s b m).L (w1.setCell ⟨A.be, 5 + s, none⟩ (.pointer (some ⟨b, 0, none⟩))) (fun q => match q with
     |.keys k=>if k=s then .own (.slice none 0 0) 3 1 0 [] else memOf A σ (.keys k)
     |.reads k=>if k=s then .own (.slice none 0 0) 359 3 0 [] else memOf A σ (.reads k)
     |.bonds k=>if k=s then .own (.slice none 0 0) 3 1 0 [] else memOf A σ (.bonds k)
     |q=>updE (updE (updE (memOf A σ) (.txn s) (.obj b (txnCs (A.newTxn s b m) s t) 158)) (.map s) (.map m [] 0)) .eng (.obj A.be ((engCs A σ).set (5+s) (.pointer (some ⟨b,0,none⟩))) 132) q):=by
  refine⟨fun q=>?_,k3.fresh⟩;have k:=k3.all q
  cases q<;>first|exact k|skip
  all_goals
   rename_i j
   by_cases hj:j=s
   · subst hj
     simp only[if_pos];exact⟨World.ownsRow_nil _ 0 _ _,fun g hg=>by cases hg⟩
   · simp only[if_neg hj]
     simp[updE] at k;exact k
 refine⟨⟨k4.of_eq fun q=>?_,((h.ev.lab he (by decide) (.txn s)).labMap hmap (.map s)).grow (k2.grow_set hE (5+s) _),h.sl,h.nw,h.nt,h.nv,by simpa [St.setT] using h.n8,h.nc⟩,g⟩;have gt:∀ k,(σ.setT s t).txns.getD k none=if k=s then some t else σ.txns.getD k none:=fun k=>getT_set (by omega) t k
 have tp:∀ k,(A.newTxn s b m).tp (σ.setT s t) k=if k=s then .pointer (some ⟨b,0,none⟩) else A.tp σ k:=by
  intro k;unfold Book.tp;rw[gt];by_cases hk:k=s
  · subst hk;simp[Book.newTxn]
  · simp[hk,Book.newTxn]
 cases hq:q.tx with
 |none=>
  cases q<;>first|rfl|(simp[Role.tx] at hq;done)|skip
  simp only[updE,if_pos,memOf,engCs,tp]
  match s,hs with
  |0,_|1,_|2,_|3,_|4,_|5,_|6,_|7,_=>rfl
 |some k=>
  rw[mem_tx _ _ hq,gt]
  by_cases hk:k=s
  · subst hk
    rw[if_pos rfl]
    cases q<;>simp[Role.tx] at hq<;>subst hq<;>simp[txEntry,updE,Book.newTxn,upF,h1,h2,h3,h4,mapEs,readCs,Txn.cell,memOf,hn2]
  · rw[if_neg hk,←mem_tx _ σ hq]
    have:=mem_butTx (A:=A) (A':={A.newTxn s b m with bt:=A.bt}) (s:=s) ⟨rfl,rfl,rfl,rfl,rfl,rfl,rfl,rfl,rfl,rfl,rfl,rfl,rfl,rfl,rfl,rfl,rfl,fun k hk=>if_neg hk,fun _ _=>rfl,fun k hk=>upF_other _ _ hk,fun k hk=>upF_other _ _ hk,fun k hk=>upF_other _ _ hk,fun k hk=>if_neg hk,fun k hk=>if_neg hk⟩ σ (q:=q) (by rw[hq];simpa using hk);have e2:memOf (A.newTxn s b m) σ q=memOf {A.newTxn s b m with bt:=A.bt} σ q:=by
     cases q<;>simp[Role.tx] at hq<;>subst hq<;>simp[memOf,Book.newTxn,hk,txnCs,mapEs]
    rw[e2,this]
    cases q<;>simp[Role.tx] at hq<;>subst hq<;>simp[updE,hk]
end Go.Proofs.YtiimlopcifljeaaGreatDoor.Em
