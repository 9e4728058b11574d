import Derived.Test.YtpkenfnmkpmapaaGreatQh5
namespace Go.Proofs.YtpkenfnmkpmapaaGreat.Em
open Go.ChangeShapes Go.WideShapes Go.ChangeAt Go.RowKit En
set_option linter.unusedVariables false
set_option linter.unusedSimpArgs false
set_option maxRecDepth 100000
set_option maxHeartbeats 1600000
variable {A:Book} {σ:St} {w:World}
theorem ThnRep.enter {p:KP} {L:Lab} {w:World} {v:Value} {key:Nat} {t:Thn} (h:ThnRep p L w v key t):∃ f c,v=.func (.func f) #[] c∧∀ args w,(callFunc f args).run Tryz.prog w=.ok (.enter f args) w:=by
 cases t
 · obtain⟨b0,b1,b2,b3,e,_⟩:=h;exact⟨_,_,e,fun args w=>by kernel_rfl⟩
 · obtain⟨b0,b1,b2,b3,b4,e,_⟩:=h;exact⟨_,_,e,fun args w=>by kernel_rfl⟩
 · obtain⟨b0,b1,b2,b3,e,_⟩:=h;exact⟨_,_,e,fun args w=>by kernel_rfl⟩
 · obtain⟨b0,b1,b2,b3,b4,e,_⟩:=h;exact⟨_,_,e,fun args w=>by kernel_rfl⟩
def ThnAt (A:Book) (w:World) (σ:St) (s:Nat) (hu:Hunt) (link:Nat):Prop:=∀ w1 f c,Rep A σ w1→Grow A.L w A.L w1→ThnRep (kp A σ s) A.L w1 (.func (.func f) #[] c) hu.key hu.thn→Calls Tryz.prog f (#[zu (link:Int)]++c) w1 (Tells A w1 s (σ.thn s hu link))
theorem visit_any (hR:Rep A σ w) (s:Nat) (bh:Nat) (hu:Hunt) (hh:HuntAt (kp A σ s) A.L w bh hu) (link:Nat) (HT:link=0→ThnAt A w σ s hu 0):
 Calls Tryz.prog 152 #[.pointer (some ⟨bh,0,none⟩),zu (link:Int)] w (Tells A w s (σ.visit s hu link)):=by
 obtain⟨r1,g1,f0,f1⟩:=allocs2 hR #[.pointer (some ⟨bh,0,none⟩)] 235 #[zu (link:Int)] 22;have c0:=f0.cell 0 (v:=.pointer (some ⟨bh,0,none⟩)) rfl;have c1:=f1.cell 0 (v:=zu (link:Int)) rfl;have hh1:=hh.grow g1
 by_cases h0:link=0
 · have e0:σ.visit s hu link=σ.thn s hu 0:=by unfold St.visit;rw[if_pos h0]
   rw[e0];obtain⟨vt,TT,fh,hth⟩:=hh1;obtain⟨fv,cv,rfl,hent⟩:=hth.enter;have d1:((link:Int)==0)=true:=by simpa using h0
   have d3:((link:Int)=0)=True:=by simpa using h0
   have h4:=fh.cell 4 (v:=.func (.func fv) #[] cv) rfl;have hf:=HT h0 _ fv cv r1 g1 hth;have HF:=zH (zA hf g1);clear hR hh r1 g1 f0 f1 fh hth hf HT h0 e0;go_enter Tryz.func152,Tryz.ntmps152;go_wp2_with fail;refine HF.out.1.mono ?_;rintro e w3 ⟨A',v,rfl,q1,q2,q3,q4⟩;go_wp2_with fail;go_ret;exact⟨A',v,rfl,q1,HF.out.2.trans q2,q3,q4⟩
 · have e0:σ.visit s hu link=(σ,.visit hu link):=by unfold St.visit;rw[if_neg h0]
   rw[e0];have d1:((link:Int)==0)=false:=by simpa using h0
   have d3:((link:Int)=0)=False:=by simpa using h0
   have HQ:=zH (zA r1 (zA g1 (zA f0 (zA f1 hh1))));clear hR hh r1 g1 f0 f1 hh1 HT h0 e0;go_enter Tryz.func152,Tryz.ntmps152;go_wp2_with fail;go_ret;obtain⟨r1,g1,f0,f1,hh1⟩:=HQ.out;exact⟨A,_,rfl,r1,g1,Stay.refl _ _,_,_,rfl,⟨_,f0.box,hh1⟩,f1.box⟩
theorem k_start (hR:Rep A σ w) (s:Nat) (hu:Hunt) (bh:Nat) (hh:HuntAt (kp A σ s) A.L w bh hu) (hk:hu.key<64) (hcnt:σ.count<4000000000000000000) (HT:σ.word (9+hu.key)=0→∀ w1,Rep A σ.tick w1→Grow A.L w A.L w1→ThnAt A w1 σ.tick s hu 0):
 Calls Tryz.prog 133 #[.pointer (some ⟨bh,0,none⟩)] w (Ran A w s (σ.run s (.start hu))):=by
 have hh0:=hh;obtain⟨vt,TT,fh,hth⟩:=hh;have h0:=fh.cell 0 (v:=.pointer (some ⟨A.be,0,none⟩)) rfl;have h2:=fh.cell 2 (v:=zi (hu.key:Int)) rfl;have e2:=hR.z2;have n1:IntKind.i64.wrap (9+(hu.key:Int))=9+(hu.key:Int):=by rw[IntKind.wrap_i64];omega
 have HL:=zH (load_i hR.drew (9+hu.key) (9+(hu.key:Int)) (by omega) (by rw[hR.nw];omega) hcnt);have HG:=zG A.L w;have HK:Hid (∀ w',Kp A w w'→w'.cell? ⟨bh,0,none⟩=some (.pointer (some ⟨A.be,0,none⟩))∧w'.cell? ⟨bh,2,none⟩=some (zi (hu.key:Int))∧w'.cell? ⟨A.be,2,none⟩=some (.pointer (some ⟨A.ba,0,none⟩))):=fun w' k=>⟨k.fix _ _ _ fh.1 h0,k.fix _ _ _ fh.1 h2,k.ea⟩
 have HB:Hid (∀ w1,Rep A σ.tick w1→Grow A.L w A.L w1→Calls Tryz.prog 152 #[.pointer (some ⟨bh,0,none⟩),zu (σ.word (9+hu.key):Int)] w1 (Tells A w1 s (σ.tick.visit s hu (σ.word (9+hu.key))))):=
  fun w1 r g=>visit_any r s bh hu (hh0.grow g) _ fun hz=>HT hz w1 r g
 have hrun:σ.run s (.start hu)=((σ.tick.visit s hu (σ.word (9+hu.key))).1,some (σ.tick.visit s hu (σ.word (9+hu.key))).2):=rfl;rw[hrun];clear hR hh0 fh hth hk hcnt HT hrun;generalize σ.tick.visit s hu (σ.word (9+hu.key))=res at*;generalize σ.word (9+hu.key)=hd at*;generalize hu.key=key at*;go_enter Tryz.func133,Tryz.ntmps133;go_wp2_with fail
 go_region_held3 (fun w'=>w'.cell? ⟨bh,0,none⟩=some (.pointer (some ⟨A.be,0,none⟩))∧w'.cell? ⟨bh,2,none⟩=some (zi (key:Int))∧w'.cell? ⟨A.be,2,none⟩=some (.pointer (some ⟨A.ba,0,none⟩)))
  (first|exact⟨h0,h2,e2⟩|assumption|exact HK.out _ (Kp.of (by assumption) (by assumption) (by assumption)))
  (first|(go_at_call 58;refine HL.out.mono ?_;rintro e w1 ⟨rfl,q1,q2⟩;have q4:=HG.out.trans q2;have q3:=Stay.refl A s;clear q2)|(go_at_call 152;refine (HB.out _ (by assumption) (by assumption)).mono ?_;rintro e w2 ⟨A',v,rfl,p1,p2,p3,p4⟩;have p5:=(‹Grow A.L w A.L _›).trans p2))
 go_wp2_with fail;go_ret;exact⟨A',_,rfl,p1,p5,p3,p4⟩
end Go.Proofs.YtpkenfnmkpmapaaGreat.Em
namespace Go.Proofs.YtpkenfnmkpmapaaGreat.Em
open Go.ChangeMaps Go.ChangeShapes Go.WideShapes Go.ChangeAt Go.RowKit En
set_option linter.unusedVariables false
set_option linter.unusedSimpArgs false
set_option maxRecDepth 100000
set_option maxHeartbeats 1600000
theorem update_run {A:Book} {w:World} {s:Nat} {t:Txn} (hb:w.heap[A.bm s]? =some (.map (mapEs A s t).toArray t.cells.length)) (key b:Nat) (hx:t.cell key=none):
 (Instr.mapUpdate 105 (.map (some (A.bm s))) (zi (key:Int)) (ptr b)).run Tryz.prog w=.ok () (setBlock w (A.bm s) (.map (mapEs A s t++[(⟨i64 key,ptr b,t.cells.length⟩:MapEntry)]).toArray (t.cells.length+1))):=by
 have hck:∀ e,(Instr.checkKey e 10000 3 (zi (key:Int))).run Tryz.prog w=.ok () w:=by
  intro e;unfold Instr.checkKey;simp[run_underlying Tryz.underlying3]
 rw[mapEs_ent] at hb ⊢
 rcases findNow_ent (A.bx s) key (t.cells.reverse.zipIdx.map fun p=>(p.1.1,p.2)) 0 with ⟨h1,h2⟩|⟨j,h1,h2⟩
 · clear h2 hx
   generalize (t.cells.reverse.zipIdx.map fun p=>(p.1.1,p.2)).map (ent (A.bx s))=es at*;simp[Instr.mapUpdate,run_underlying Tryz.underlying105,run_underlying Tryz.underlying3,MapKept.run_getObj_map hb,hck,Instr.findKey,h1,MapKept.run_setObj_map _ hb,Result.andThen,setBlock]
 · have h3:=(cell_keys t key).1 h2
   rw[hx] at h3
   cases h3
theorem wpList_update {P:Program} {w w':World} {ops:Array Oper} {rest:List Oper} {o:Oper} {a:Act} {Q:Exit→Act→World→Prop}
 (hg:o.guard=none) (m x v:Operand) (t:TypeId) (hop:o.op=Op.mapUpdate t m x v) (hrun:(Instr.mapUpdate t (a.eval m) (a.eval x) (a.eval v)).run P w=.ok () w')
 (hK:wpList P ops Q rest (a.put o.dst undef) w'):wpList P ops Q (o::rest) a w:=by
 refine wpList_plain hg fun K' hK'=>?_
 unfold Oper.wp;simp[execOp,hop,hrun,Result.andThen];exact hK' _ _ hK
theorem grown_setBlock {w:World} {b:Nat} {es:Array MapEntry} {clock:Nat} (hb:w.heap[b]? =some (.map es clock)) (o:Obj):w.grownBy (setBlock w b o) (some b):=
 ⟨rfl,rfl,rfl,by simp[setBlock],fun i _ hi=>heap_setBlock_other hb _ (fun e=>hi (by rw[e]))⟩
def Took (A:Book) (w:World) (s key:Nat) (σ':St):Ending→World→Prop:=fun e w'=>∃ b,e=.returned (ptr b)∧∃ A',Rep A' σ' w'∧Grow A.L w A'.L w'∧Stay A A' s∧A'.bx s key=b∧A'.vpairs=A.vpairs
theorem take_tells {A:Book} {σ:St} {w:World} (hR:Rep A σ w) (s:Nat) (t:Txn) (ht:σ.txns.getD s none=some t) (key old:Nat) (hx:t.cell key=none) (hk:t.keys.length<1000000):
 Calls Tryz.prog 167 #[.pointer (some ⟨A.bt s,0,none⟩),zi (key:Int),zu (old:Int)] w (Took A w s key (σ.takeKey s key ⟨0,old,false⟩)):=by
 have hb:=hR.map ht;generalize hwa:w.alloc (.cells #[zu 0,zu (old:Int),.bool false] 214)=wa;have hbl:Below w.heap.size w wa:=by rw[←hwa];exact (Below.refl _ _).alloc (Nat.le_refl _) _
 have hblk:wa.heap[w.heap.size]? =some (.cells (celCs ⟨0,old,false⟩).toArray 214):=by rw[←hwa];exact heap_alloc_new w _
 have ra:=hR.below hbl;have t7:=ra.txn ht 7 (v:=.map (some (A.bm s))) rfl;have hb1:=ra.map ht;have hup:=update_run hb1 key w.heap.size hx;generalize hwb:setBlock wa (A.bm s) (.map (mapEs A s t++[(⟨i64 key,ptr w.heap.size,t.cells.length⟩:MapEntry)]).toArray (t.cells.length+1))=wb at hup;obtain⟨rb,gb⟩:=hR.newCel hbl ht hx (Nat.le_refl _) ⟨0,old,false⟩ hblk (w2:=wb) (by rw[←hwb];exact grown_setBlock hb1 _) (by rw[←hwb];exact heap_setBlock_same hb1 _) (by rw[←hwb];simp[setBlock]);have ht2:(σ.setT s {t with cells:=(key,⟨0,old,false⟩)::t.cells}).txns.getD s none=some {t with cells:=(key,⟨0,old,false⟩)::t.cells}:=by rw[getT_set (lt_of_txn ht),if_pos rfl]
 have t6:wb.cell? ⟨A.bt s,6,none⟩=some (A.vkeys s):=rb.txn ht2 6 rfl;have z6:=rb.txnF ht2 6;have rc:=rb.alloc (.cells #[zi (key:Int)] 3);have hown:=(rc.mem.all (.keys s))
 rw[mem_keys ht2] at hown;have ho:(wb.alloc (.cells #[zi (key:Int)] 3)).ownsRow 0 3 1 (A.vkeys s) t.keys.length (t.keys.map i64):=hown.1;obtain⟨av,capv,hv,_⟩:=Ow.own_form ho;have e:σ.takeKey s key ⟨0,old,false⟩=(σ.setT s {t with cells:=(key,⟨0,old,false⟩)::t.cells}).setT s {t with cells:=(key,⟨0,old,false⟩)::t.cells,keys:=t.keys++[key]}:=by
  unfold St.takeKey St.setT;rw[txn_get ht];simp
 rw[e]
 have FN : Hid (∀ v' w2, w2.ownsRow 0 3 1 v' (t.keys.length + 1) (t.keys.map i64 ++ [zi (key : Int)]) → (wb.alloc (.cells #[zi (key : Int)] 3)).grownBy w2 (A.vkeys s).ownBlock → (v'.ownBlock = (A.vkeys s).ownBlock ∨ ∀ g, v'.ownBlock = some g → (wb.alloc (.cells #[zi (key : Int)] 3)).heap.size ≤ g) →
     (∃ A',Rep A' ((σ.setT s {t with cells:=(key,⟨0,old,false⟩)::t.cells}).setT s {t with cells:=(key,⟨0,old,false⟩)::t.cells,keys:=t.keys++[key]}) (w2.setCell ⟨A.bt s,6,none⟩ v')∧Grow A.L w A'.L (w2.setCell ⟨A.bt s,6,none⟩ v')∧Stay A A' s∧A'.bx s key=w.heap.size∧A'.vpairs=A.vpairs)∧w2.cell? ⟨A.bt s,6,none⟩=some (A.vkeys s)∧w2.frozen? ⟨A.bt s,6,none⟩=false):=by
  intro v' w2 q1 q2 q3;obtain⟨k1,k2,k3,k4⟩:=rc.keysOn ht2 (t.keys++[key]) v' q2 (by simpa using q1) q3;refine⟨⟨_,k1,(gb.trans (Grow.alloc _ _ _)).trans k2,⟨rfl,rfl,rfl,rfl,rfl,rfl,rfl,rfl,rfl,rfl,rfl,fun k hk'=>?_,fun _ _=>rfl⟩,?_,rfl⟩,k3,k4⟩
  · funext j
    show (if k=s∧j=key then w.heap.size else A.bx k j)=A.bx k j;rw[if_neg (fun h=>hk' h.1)]
  · show (if s=s∧key=key then w.heap.size else A.bx s key)=w.heap.size
    rw[if_pos ⟨rfl,rfl⟩]
 have HUP:=zH hup;rw[←hwa] at HUP t7;rw[hv] at t6 ho FN;have HO:=zH ho;have z6':wb.frozen? ⟨A.bt s,6,none⟩=false:=z6;have HZ:=zH (show wb.heap.size=w.heap.size+1 by rw[←hwb,←hwa];simp[setBlock]);clear hR ht hb hbl hblk ra hb1 hup rb gb ht2 rc hown ho e hwb hwa hx z6;generalize hn:t.keys.length=n at*;have HN:=zH hk;clear hk hn;obtain⟨ii,hii,hz0,hz1,hz2⟩:=info_parts infoI;go_enter Tryz.func167,Tryz.ntmps167;go_wp2_with (first|(refine wpList_update rfl (.tmp 14) (.tmp 15) (.tmp 16) 105 rfl HUP.out ?_)|(refine Ow.wpList_append_to _ rfl (.tmp 21) (.tmp 23) 23 rfl 0 _ ii _ 1 8 Tryz.underlying23 hii hz0 hz1 hz2 rfl (by decide) (.slice av n capv) n (t.keys.map i64) rfl HO.out ⟨wb.heap.size,0,none⟩ 1 1 (by omega) [zi (key:Int)] rfl rfl (by intro j' u hu;exact Ow.new_row _ [zi (key:Int)] _ _ rfl j' u hu) (by intro u hu;obtain rfl:=List.mem_singleton.1 hu;rfl) (by have:=HN.out;unfold maxLen;omega) (by have:=HN.out;omega) (Nat.zero_le _) ?_;intro v' w4 q1 q2 q3;obtain⟨k1,k2,k3⟩:=FN.out v' w4 q1 q2 q3;obtain⟨a4,cap4,rfl,_⟩:=Ow.own_form q1;have K1:=zH k1;clear k1 q1 q2 q3));go_ret;exact⟨_,rfl,K1.out⟩
end Go.Proofs.YtpkenfnmkpmapaaGreat.Em
namespace Go.Proofs.YtpkenfnmkpmapaaGreat.Em
open Go.ChangeShapes Go.WideShapes Go.ChangeAt Go.RowKit En
set_option linter.unusedVariables false
set_option linter.unusedSimpArgs false
set_option maxRecDepth 100000
set_option maxHeartbeats 1600000
variable {A:Book} {σ:St} {w:World}
theorem cas_i (h:Rep A σ w) (i o n:Nat) (z:Int) (hz:z=(i:Int)) (hi:i<σ.words.length) (hc:σ.count<4000000000000000000):
 Calls Tryz.prog 60 #[.pointer (some ⟨A.ba,0,none⟩),zi z,zu (o:Int),zu (n:Int)] w (Did A w (σ.cas i o n) (.bool (σ.word i==o))):=by subst hz;exact cas_any h i o n hi hc
theorem upd_cons (l:List (Nat×Cel)) (key:Nat) (x y:Cel) (h:l.lookup key=none):upd ((key,x)::l) key y=(key,y)::l:=by
 have h1:=lookup_none h;unfold upd;simp only[List.map_cons,if_true]
 congr 1
 conv=>rhs;rw[←List.map_id l]
 refine List.map_congr_left fun p hp=>?_
 simp[h1 p hp]
theorem takeKey_cell {σ:St} {s:Nat} {t:Txn} (ht:σ.txns.getD s none=some t) (key:Nat) (x y:Cel) (hx:t.cell key=none):
 (σ.takeKey s key x).setT s {(σ.takeKey s key x).t s with cells:=upd ((σ.takeKey s key x).t s).cells key y}=σ.takeKey s key y:=by
 have e:(σ.takeKey s key x).t s={t with cells:=(key,x)::t.cells,keys:=t.keys++[key]}:=by
  refine txn_get ?_;unfold St.takeKey;rw[txn_get ht,getT_set (lt_of_txn ht),if_pos rfl]
 rw[e];unfold St.takeKey St.setT;simp only[txn_get ht,List.set_set];rw[upd_cons _ _ _ _ hx]
theorem takeKey_txn {σ:St} {s:Nat} {t:Txn} (ht:σ.txns.getD s none=some t) (key:Nat) (x:Cel):(σ.takeKey s key x).txns.getD s none=some {t with cells:=(key,x)::t.cells,keys:=t.keys++[key]}:=by
 unfold St.takeKey;rw[txn_get ht,getT_set (lt_of_txn ht),if_pos rfl]
theorem k_pushC_miss (hR:Rep A σ w) (s:Nat) (t:Txn) (ht:σ.txns.getD s none=some t) (c:Cal) (hc:σ.calls.getD s none=some c) (link head:Nat) (hk:c.op.key<64) (hx:t.cell c.op.key=none) (hkl:t.keys.length<1000000) (hcnt:σ.count<4000000000000000000) (b0 b1 b2 b3 b4:Nat)
 (B0:Box A.L w b0 (.pointer (some ⟨A.be,0,none⟩))) (B1:Box A.L w b1 (.pointer (some ⟨A.bc s,0,none⟩))) (B2:Box A.L w b2 (zu (head:Int))) (B3:Box A.L w b3 (zu (link:Int))) (B4:Box A.L w b4 (.pointer (some ⟨A.bt s,0,none⟩))) (hm:σ.word (9+c.op.key)≠head):
 Calls Tryz.prog 182 #[.pointer (some ⟨b0,0,none⟩),.pointer (some ⟨b1,0,none⟩),.pointer (some ⟨b2,0,none⟩),.pointer (some ⟨b3,0,none⟩),.pointer (some ⟨b4,0,none⟩)] w (Ran A w s (σ.run s (.pushC link head))):=by
 have c0:=B0.cell;have c1:=B1.cell;have c2:=B2.cell;have c3:=B3.cell;have e2:=hR.z2;have k1:w.cell? ⟨A.bc s,1,none⟩=some (zi (c.op.key:Int)):=hR.call hc 1 rfl;have n1:IntKind.i64.wrap (9+(c.op.key:Int))=9+(c.op.key:Int):=by rw[IntKind.wrap_i64];omega
 have HL:=zH (cas_i hR.drew (9+c.op.key) head link (9+(c.op.key:Int)) (by omega) (by rw[hR.nw];omega) hcnt);have HG:=zG A.L w;have hrun:σ.run s (.pushC link head)=(σ.tick,some (.fresh link)):=by simp[St.run,call_get hc,St.cas,hm]
 rw[hrun];have hb:(σ.word (9+c.op.key)==head)=false:=by simpa using hm
 have hcs:σ.cas (9+c.op.key) head link=σ.tick:=if_neg hm;rw[hb,hcs] at HL;have HB:Hid (∀ w1,Rep A σ.tick w1→Grow A.L w A.L w1→Calls Tryz.prog 123 #[.pointer (some ⟨A.be,0,none⟩),.pointer (some ⟨A.bt s,0,none⟩),.pointer (some ⟨A.bc s,0,none⟩),zu (link:Int)] w1 (Tells A w1 s (σ.tick,.fresh link))∧w1.cell? ⟨b0,0,none⟩=some (.pointer (some ⟨A.be,0,none⟩))∧w1.cell? ⟨b1,0,none⟩=some (.pointer (some ⟨A.bc s,0,none⟩))∧w1.cell? ⟨b3,0,none⟩=some (zu (link:Int))∧w1.cell? ⟨b4,0,none⟩=some (.pointer (some ⟨A.bt s,0,none⟩))):=
  fun w1 q g=>⟨fresh_any q s link,(B0.grow g).cell,(B1.grow g).cell,(B3.grow g).cell,(B4.grow g).cell⟩
 clear hR ht hc hk hx hkl hcnt B0 B1 B2 B3 B4 hm hrun hb hcs;generalize c.op.key=key at*;go_enter Tryz.func182,Tryz.ntmps182;go_wp2_with fail;refine wp_region_still_tail 12 (by kernel_rfl) (by kernel_rfl) ?_;simp only[zta,ztb,ztc,ztd]
 repeat still_step
 refine wpStill_nil ?_;change wpList _ _ _ _ _ w.drew;generalize w.drew=wd at*;go_wp2_with (first|(go_at_call 60;refine HL.out.mono ?_;rintro e w1 ⟨rfl,q1,q2⟩;have g1:=HG.out.trans q2;obtain⟨hf,d0,d1,d3,d4⟩:=HB.out w1 q1 g1;have HQ:=zH (zA hf g1);clear q1 q2 g1 hf)|(go_at_call 123;refine HQ.out.1.mono ?_;rintro e w2 ⟨A2,v,rfl,p1,p2,p3,p4⟩));go_ret;exact⟨A2,v,rfl,p1,HQ.out.2.trans p2,p3,p4⟩
theorem k_pushC_hit (hR:Rep A σ w) (s:Nat) (t:Txn) (ht:σ.txns.getD s none=some t) (c:Cal) (hc:σ.calls.getD s none=some c) (link head:Nat) (hk:c.op.key<64) (hx:t.cell c.op.key=none) (hkl:t.keys.length<1000000) (hcnt:σ.count<4000000000000000000) (b0 b1 b2 b3 b4:Nat)
 (B0:Box A.L w b0 (.pointer (some ⟨A.be,0,none⟩))) (B1:Box A.L w b1 (.pointer (some ⟨A.bc s,0,none⟩))) (B2:Box A.L w b2 (zu (head:Int))) (B3:Box A.L w b3 (zu (link:Int))) (B4:Box A.L w b4 (.pointer (some ⟨A.bt s,0,none⟩))) (hm:σ.word (9+c.op.key)=head):
 Calls Tryz.prog 182 #[.pointer (some ⟨b0,0,none⟩),.pointer (some ⟨b1,0,none⟩),.pointer (some ⟨b2,0,none⟩),.pointer (some ⟨b3,0,none⟩),.pointer (some ⟨b4,0,none⟩)] w (Ran A w s (σ.run s (.pushC link head))):=by
 have c0:=B0.cell;have c1:=B1.cell;have c2:=B2.cell;have c3:=B3.cell;have e2:=hR.z2;have k1:w.cell? ⟨A.bc s,1,none⟩=some (zi (c.op.key:Int)):=hR.call hc 1 rfl;have n1:IntKind.i64.wrap (9+(c.op.key:Int))=9+(c.op.key:Int):=by rw[IntKind.wrap_i64];omega
 have HL:=zH (cas_i hR.drew (9+c.op.key) head link (9+(c.op.key:Int)) (by omega) (by rw[hR.nw];omega) hcnt);have HG:=zG A.L w;have hrun:σ.run s (.pushC link head)=((σ.put (9+c.op.key) link).takeKey s c.op.key ⟨link,0,true⟩,some (.fin {})):=by simp[St.run,call_get hc,St.cas,hm]
 rw[hrun];have hb:(σ.word (9+c.op.key)==head)=true:=by simpa using hm
 have hcs:σ.cas (9+c.op.key) head link=σ.put (9+c.op.key) link:=if_pos hm;rw[hb,hcs] at HL;have HB:Hid (∀ w1,Rep A (σ.put (9+c.op.key) link) w1→Grow A.L w A.L w1→Calls Tryz.prog 167 #[.pointer (some ⟨A.bt s,0,none⟩),zi (c.op.key:Int),zu 0] w1.drew (Took A w1.drew s c.op.key ((σ.put (9+c.op.key) link).takeKey s c.op.key ⟨0,0,false⟩))∧w1.cell? ⟨b1,0,none⟩=some (.pointer (some ⟨A.bc s,0,none⟩))∧w1.cell? ⟨b4,0,none⟩=some (.pointer (some ⟨A.bt s,0,none⟩))∧w1.cell? ⟨A.bc s,1,none⟩=some (zi (c.op.key:Int))):=
  fun w1 q g=>⟨take_tells q.drew s t ht c.op.key 0 hx hkl,(B1.grow g).cell,(B4.grow g).cell,q.call hc 1 rfl⟩
 have HE : Hid (∀ w1 w2 A1 b, Grow A.L w A.L w1 → Rep A1 ((σ.put (9 + c.op.key) link).takeKey s c.op.key ⟨0, 0, false⟩) w2 → Grow A.L w1 A1.L w2 → Stay A A1 s → A1.bx s c.op.key = b → A1.vpairs = A.vpairs →
     w2.cell? ⟨b,0,none⟩=some (zu 0)∧w2.frozen? ⟨b,0,none⟩=false∧w2.cell? ⟨b,2,none⟩=some (.bool false)∧w2.frozen? ⟨b,2,none⟩=false∧w2.cell? ⟨b3,0,none⟩=some (zu (link:Int))∧
     ((w2.setCell ⟨b,0,none⟩ (zu (link:Int))).setCell ⟨b,2,none⟩ (.bool true)).cell? ⟨b0,0,none⟩=some (.pointer (some ⟨A.be,0,none⟩))∧((w2.setCell ⟨b,0,none⟩ (zu (link:Int))).setCell ⟨b,2,none⟩ (.bool true)).cell? ⟨b1,0,none⟩=some (.pointer (some ⟨A.bc s,0,none⟩))∧
     Calls Tryz.prog 105 #[.pointer (some ⟨A.be,0,none⟩),.pointer (some ⟨A.bc s,0,none⟩),.agg #[zi 0,zi 0,.slice none 0 0,zi 0,zi 0]] ((w2.setCell ⟨b,0,none⟩ (zu (link:Int))).setCell ⟨b,2,none⟩ (.bool true)) (Tells A1 ((w2.setCell ⟨b,0,none⟩ (zu (link:Int))).setCell ⟨b,2,none⟩ (.bool true)) s ((σ.put (9+c.op.key) link).takeKey s c.op.key ⟨link,0,true⟩,.fin {}))∧
     Grow A.L w A1.L ((w2.setCell ⟨b,0,none⟩ (zu (link:Int))).setCell ⟨b,2,none⟩ (.bool true))):=by
  intro w1 w2 A1 b g1 r2 g2 st hbx hvp;have ht1:(σ.put (9+c.op.key) link).txns.getD s none=some t:=ht;have ht2:=takeKey_txn ht1 c.op.key ⟨0,0,false⟩;have hx2:({t with cells:=(c.op.key,(⟨0,0,false⟩:Cel))::t.cells,keys:=t.keys++[c.op.key]}:Txn).cell c.op.key=some ⟨0,0,false⟩:=by simp[Txn.cell,List.lookup]
  obtain⟨a0,a1,a2⟩:=r2.cel ht2 hx2;have z0:=r2.celF ht2 hx2 0;have z2:=r2.celF ht2 hx2 2;obtain⟨r3,g3⟩:=r2.celSet ht2 hx2 ⟨link,0,false⟩ 0 (zu (link:Int)) rfl;have e3:=takeKey_cell ht1 c.op.key ⟨0,0,false⟩ ⟨link,0,false⟩ hx;rw[txn_get ht2] at e3;rw[e3] at r3;have ht3:=takeKey_txn ht1 c.op.key ⟨link,0,false⟩;have hx3:({t with cells:=(c.op.key,(⟨link,0,false⟩:Cel))::t.cells,keys:=t.keys++[c.op.key]}:Txn).cell c.op.key=some ⟨link,0,false⟩:=by simp[Txn.cell,List.lookup]
  obtain⟨r4,g4⟩:=r3.celSet ht3 hx3 ⟨link,0,true⟩ 2 (.bool true) rfl;have e4:=takeKey_cell ht1 c.op.key ⟨link,0,false⟩ ⟨link,0,true⟩ hx;rw[txn_get ht3] at e4;rw[e4] at r4;rw[hbx] at a0 a2 z0 z2 g3 r4 g4;have g5:=((g1.trans g2).trans g3).trans g4;have he:=ends_at r4 s {} 0 0 0 0 (.slice none 0 0) rfl (.inr ⟨rfl,rfl⟩);rw[st.be,st.bc] at he;exact⟨a0,z0,a2,z2,(B3.grow (g1.trans g2)).cell,(B0.grow g5).cell,(B1.grow g5).cell,he,g5⟩
 clear hR ht hc hk hx hkl hcnt B0 B1 B2 B3 B4 hm hrun hb hcs;generalize (σ.put (9+c.op.key) link).takeKey s c.op.key ⟨0,0,false⟩=σ1 at*;generalize (σ.put (9+c.op.key) link).takeKey s c.op.key ⟨link,0,true⟩=σ2 at*;generalize c.op.key=key at*;go_enter Tryz.func182,Tryz.ntmps182;go_wp2_with fail;refine wp_region_still_tail 12 (by kernel_rfl) (by kernel_rfl) ?_;simp only[zta,ztb,ztc,ztd]
 repeat still_step
 refine wpStill_nil ?_;change wpList _ _ _ _ _ w.drew;generalize w.drew=wd at*;go_wp2_with (go_at_call 60;refine HL.out.mono ?_;rintro e w1 ⟨rfl,q1,q2⟩;have g1:=HG.out.trans q2;obtain⟨hf,d1,d4,d5⟩:=HB.out w1 q1 g1;have HQ:=zH (zA hf (g1.trans (Grow.drew _ _)));clear q1 q2 g1 hf);refine wp_region_still_tail 6 (by kernel_rfl) (by kernel_rfl) ?_;simp only[zta,ztb,ztc,ztd]
 repeat still_step
 refine wpStill_nil ?_;change wpList _ _ _ _ _ w1.drew;generalize w1.drew=wd1 at*;go_wp2_with (first|(go_at_call 167;refine HQ.out.1.mono ?_;rintro e w2 ⟨b,rfl,A1,r2,g2,st,hbx,hvp⟩;obtain⟨a0,z0,a2,z2,d3,y0,y1,he,g5⟩:=HE.out _ w2 A1 b HQ.out.2 r2 g2 st hbx hvp;have HZ:=zH (zA he (zA g5 st));clear r2 g2 st hbx hvp he g5)|(go_at_call 105;refine HZ.out.1.mono ?_;rintro e w3 ⟨A2,v,rfl,p1,p2,p3,p4⟩));go_ret;exact⟨A2,v,rfl,p1,HZ.out.2.1.trans p2,HZ.out.2.2.trans p3,p4⟩
theorem k_pushC (hR:Rep A σ w) (s:Nat) (t:Txn) (ht:σ.txns.getD s none=some t) (c:Cal) (hc:σ.calls.getD s none=some c) (link head:Nat) (hk:c.op.key<64) (hx:t.cell c.op.key=none) (hkl:t.keys.length<1000000) (hcnt:σ.count<4000000000000000000) (b0 b1 b2 b3 b4:Nat)
 (B0:Box A.L w b0 (.pointer (some ⟨A.be,0,none⟩))) (B1:Box A.L w b1 (.pointer (some ⟨A.bc s,0,none⟩))) (B2:Box A.L w b2 (zu (head:Int))) (B3:Box A.L w b3 (zu (link:Int))) (B4:Box A.L w b4 (.pointer (some ⟨A.bt s,0,none⟩))):
 Calls Tryz.prog 182 #[.pointer (some ⟨b0,0,none⟩),.pointer (some ⟨b1,0,none⟩),.pointer (some ⟨b2,0,none⟩),.pointer (some ⟨b3,0,none⟩),.pointer (some ⟨b4,0,none⟩)] w (Ran A w s (σ.run s (.pushC link head))):=by
 by_cases hm:σ.word (9+c.op.key)=head
 · exact k_pushC_hit hR s t ht c hc link head hk hx hkl hcnt b0 b1 b2 b3 b4 B0 B1 B2 B3 B4 hm
 · exact k_pushC_miss hR s t ht c hc link head hk hx hkl hcnt b0 b1 b2 b3 b4 B0 B1 B2 B3 B4 hm
theorem finish_any (hR:Rep A σ w) (s:Nat) (c:Cal) (hc:σ.calls.getD s none=some c) (r:Res) (a:Option Addr) (pn pc:Nat) (vp:Value) (hvp:vp=.slice a pn pc)
 (hp:(vp=A.vpairs s∧r.pairs=c.r.pairs)∨(vp=.slice none 0 0∧r.pairs=[])):
 Calls Tryz.prog 132 #[.pointer (some ⟨A.be,0,none⟩),.pointer (some ⟨A.bc s,0,none⟩),.agg #[zi (r.e:Int),zi (r.value:Int),vp,zi (r.over:Int),zi (r.reason:Int)]] w (Ran A w s (σ.finish s r,none)):=by
 obtain⟨r1,g1,f0⟩:=allocs1 hR #[zi (r.e:Int),zi (r.value:Int),vp,zi (r.over:Int),zi (r.reason:Int)] 49;obtain⟨r2,g2⟩:=r1.resSet hc r vp hp;have hc2:(σ.setC s {c with r:=r}).calls.getD s none=some {c with r:=r}:=by rw[getC_set (lt_of_call hc),if_pos rfl]
 obtain⟨r3,g3⟩:=r2.setCall hc2 {c with r:=r,over:=true} 11 (.bool true) rfl rfl;have c11:=r2.call hc2 11 (v:=.bool c.over) rfl;have z11:=r2.callF hc2 11;have ht:(w.alloc (.cells #[zi (r.e:Int),zi (r.value:Int),vp,zi (r.over:Int),zi (r.reason:Int)] 49)).there (A.bc s) 5 5:=by
  intro j hj;refine⟨?_,r1.callF hc _⟩
  match j,hj with
  |0,_=>rw[r1.call hc 5 rfl];rfl
  |1,_=>rw[r1.call hc 6 rfl];rfl
  |2,_=>rw[r1.call hc 7 rfl];rfl
  |3,_=>rw[r1.call hc 8 rfl];rfl
  |4,_=>rw[r1.call hc 9 rfl];rfl
 have b0:=f0.cell 0 (v:=zi (r.e:Int)) rfl;have b1:=f0.cell 1 (v:=zi (r.value:Int)) rfl;have b2:=f0.cell 2 (v:=vp) rfl;have b3:=f0.cell 3 (v:=zi (r.over:Int)) rfl;have b4:=f0.cell 4 (v:=zi (r.reason:Int)) rfl;have e:σ.finish s r=(σ.setC s {c with r:=r}).setC s {c with r:=r,over:=true}:=by
  unfold St.finish St.setC;rw[call_get hc];simp
 rw[e];have HR:Hid (∀ ws,ws=(w.alloc (.cells #[zi (r.e:Int),zi (r.value:Int),vp,zi (r.over:Int),zi (r.reason:Int)] 49)).setCells (A.bc s) 5 [zi (r.e:Int),zi (r.value:Int),vp,zi (r.over:Int),zi (r.reason:Int)]→ws.cell? ⟨A.bc s,11,none⟩=some (.bool c.over)∧ws.frozen? ⟨A.bc s,11,none⟩=false∧Rep (A.resPairs s vp) ((σ.setC s {c with r:=r}).setC s {c with r:=r,over:=true}) (ws.setCell ⟨A.bc s,11,none⟩ (.bool true))∧Grow A.L w A.L (ws.setCell ⟨A.bc s,11,none⟩ (.bool true))):=by
  rintro ws rfl;exact⟨c11,z11,r3,(g1.trans g2).trans g3⟩
 have HT:=zH ht;clear hR hc r1 g1 f0 r2 g2 hc2 r3 g3 ht e hp c11 z11;subst hvp;go_enter Tryz.func132,Tryz.ntmps132;go_wp2_with (refine wpList_store_mid rfl 49 (.tmp 10) (.tmp 8) rfl (A.bc s) 5 #[zi (r.e:Int),zi (r.value:Int),.slice a pn pc,zi (r.over:Int),zi (r.reason:Int)] rfl rfl HT.out (by kernel_rfl) (by simp[Value.oneCell']) ?_;generalize hws:World.setCells _ _ _ _=ws;obtain⟨k1,k2,k3⟩:=HR.out ws hws.symm;have HK:=zH k3;clear k3 hws);go_ret;exact⟨_,_,rfl,HK.out.1,HK.out.2,⟨rfl,rfl,rfl,rfl,rfl,rfl,rfl,rfl,rfl,rfl,rfl,fun _ _=>rfl,fun k hk=>upF_other _ _ hk⟩,rfl⟩
theorem k_fin (hR:Rep A σ w) (s:Nat) (c:Cal) (hc:σ.calls.getD s none=some c) (r:Res) (b0 b1 b2:Nat) (B0:Box A.L w b0 (.pointer (some ⟨A.be,0,none⟩))) (B1:Box A.L w b1 (.pointer (some ⟨A.bc s,0,none⟩))) (B2:ResBox (kp A σ s) A.L w b2 r):
 Calls Tryz.prog 131 #[.pointer (some ⟨b0,0,none⟩),.pointer (some ⟨b1,0,none⟩),.pointer (some ⟨b2,0,none⟩)] w (Ran A w s (σ.run s (.fin r))):=by
 obtain⟨vp,TT,F2,hp⟩:=B2;have hps:(kp A σ s).ps=c.r.pairs:=by show (σ.c s).r.pairs=_;rw[call_get hc]
 rw[hps] at hp;have hform:∃ a n cap,vp=.slice a n cap:=by
  rcases hp with ⟨h1,_⟩|⟨h1,_⟩
  · have hown:=hR.mem.all (.pairs s)
    rw[mem_pairs hc] at hown;obtain⟨a,cap,h2,_⟩:=Ow.own_form hown.1;exact⟨a,_,cap,h1.trans h2⟩
  · exact⟨none,0,0,h1⟩
 obtain⟨a,pn,pc,hvp⟩:=hform;have HF:=zH (finish_any hR s c hc r a pn pc vp hvp hp);have c0:=B0.cell;have c1:=B1.cell;have d0:=F2.cell 0 (v:=zi (r.e:Int)) rfl;have d1:=F2.cell 1 (v:=zi (r.value:Int)) rfl;have d2:=F2.cell 2 (v:=vp) rfl;have d3:=F2.cell 3 (v:=zi (r.over:Int)) rfl;have d4:=F2.cell 4 (v:=zi (r.reason:Int)) rfl;clear hR hc B0 B1 F2 hp hps;subst hvp;go_enter Tryz.func131,Tryz.ntmps131;go_wp2_with (go_at_call 132;refine HF.out.mono ?_;rintro e w2 ⟨A2,v,rfl,p1,p2,p3,rfl⟩);go_ret;exact⟨A2,_,rfl,p1,p2,p3,rfl⟩
theorem PRow.labs {L L':Lab} {w:World} {v:Value} {xs:List Value} (h:PRow L w v xs) {b:Nat} (hL:∀ g,g≠b→L' g=L g) (hb:∀ cs,w.heap[b]? ≠some (.cells cs 134)):PRow L' w v xs:=by
 obtain⟨⟨ad,n,cap,rfl,e2,e3,e4,e5⟩,h2⟩:=h;refine⟨⟨ad,n,cap,rfl,e2,e3,e4,?_⟩,h2⟩
 rcases e5 with h0|⟨g,off,rfl,e7,e8,e9⟩
 · exact .inl h0
 · rcases h2 g off n cap rfl with h0|⟨cs,hc⟩
   · exact .inl h0
   · refine .inr ⟨g,off,rfl,?_,e8,e9⟩
     rw[hL g (by rintro rfl;exact hb _ hc)];exact e7
theorem Evs.labs {L L':Lab} {w:World} {b:Nat} (hL:∀ g,g≠b→L' g=L g) (hb:∀ cs,w.heap[b]? ≠some (.cells cs 134)):∀ {l:List Ev} {xs:List Value},Evs L w l xs→Evs L' w l xs
 |[],_,h=>h
 |_::_,_,⟨vp,ys,h1,h2,h3⟩=>⟨vp,ys,h1,h2.labs hL hb,Evs.labs hL hb h3⟩
theorem Evs.lab {L:Lab} {w:World} {b:Nat} {cs:Array Value} {T:TypeId} {l:List Ev} {xs:List Value} (h:Evs L w l xs) (he:w.heap[b]? =some (.cells cs T)) (hT:T≠134) (r:Role):Evs (lab1 L b r) w l xs:=
 h.labs (fun g hg=>lab1_other hg) (fun cs' hc=>by rw[he] at hc;simp at hc;exact hT hc.2)
theorem Evs.labMap {L:Lab} {w:World} {b:Nat} {es:Array MapEntry} {k:Nat} {l:List Ev} {xs:List Value} (h:Evs L w l xs) (he:w.heap[b]? =some (.map es k)) (r:Role):Evs (lab1 L b r) w l xs:=
 h.labs (fun g hg=>lab1_other hg) (fun cs' hc=>by rw[he] at hc;simp at hc)
theorem Rep.adoptTxn {A:Book} {σ:St} {w w1:World} (h:Rep A σ w1) (g0:Grow A.L w A.L w1) {s b m:Nat} (hfb:A.L b=none) (hfm:A.L m=none) (hs:s<8) (hb:w.heap.size≤b) (hm:w.heap.size≤m) (hbm:b≠m) (t:Txn) (h1:t.keys=[]) (h2:t.cells=[]) (h3:t.reads=[]) (h4:t.bonds=[])
 (he:w1.heap[b]? =some (.cells (txnCs (A.newTxn s b m) s t).toArray 120)) (hmap:w1.heap[m]? =some (.map #[] 0)) (hn:σ.txns.getD s none=none):
 Rep (A.newTxn s b m) (σ.setT s t) (w1.setCell ⟨A.be,5+s,none⟩ (.pointer (some ⟨b,0,none⟩)))∧Grow A.L w (A.newTxn s b m).L (w1.setCell ⟨A.be,5+s,none⟩ (.pointer (some ⟨b,0,none⟩))):=by
 have hlt:b<w1.heap.size:=lt_of he;have hltm:m<w1.heap.size:=lt_of hmap;have n8:=h.n8;have hn2:=hn;rw[List.getD_eq_getElem?_getD] at hn2;have k1:=h.mem.adopt (.txn s) hfb (.obj b (txnCs (A.newTxn s b m) s t) 120) ⟨lab1_same _ _ _,he⟩ hlt;have k2:=k1.adopt (.map s) (b:=m) ((lab1_other (Ne.symm hbm)).trans hfm) (.map m [] 0) ⟨lab1_same _ _ _,hmap⟩ hltm;have hE:(updE (updE (memOf A σ) (.txn s) (.obj b (txnCs (A.newTxn s b m) s t) 120)) (.map s) (.map m [] 0)) .eng=.obj A.be (engCs A σ) 104:=rfl;have k3:=k2.put .eng hE (5+s) (.pointer (some ⟨b,0,none⟩));have g:Grow A.L w (A.newTxn s b m).L (w1.setCell ⟨A.be,5+s,none⟩ (.pointer (some ⟨b,0,none⟩))):=
  ((g0.lab1 hb _).lab1 hm _).trans (k2.grow_set hE (5+s) _)
 have k4 : Holds (A.newTxn s b m).L (w1.setCell ⟨A.be, 5 + s, none⟩ (.pointer (some ⟨b, 0, none⟩))) (fun q => match q with
     |.keys k=>if k=s then .own (.slice none 0 0) 3 1 0 [] else memOf A σ (.keys k)
     |.reads k=>if k=s then .own (.slice none 0 0) 239 3 0 [] else memOf A σ (.reads k)
     |.bonds k=>if k=s then .own (.slice none 0 0) 3 1 0 [] else memOf A σ (.bonds k)
     |q=>updE (updE (updE (memOf A σ) (.txn s) (.obj b (txnCs (A.newTxn s b m) s t) 120)) (.map s) (.map m [] 0)) .eng (.obj A.be ((engCs A σ).set (5+s) (.pointer (some ⟨b,0,none⟩))) 104) q):=by
  refine⟨fun q=>?_,k3.fresh⟩;have k:=k3.all q
  cases q<;>first|exact k|skip
  all_goals
   rename_i j
   by_cases hj:j=s
   · subst hj
     simp only[if_pos];exact⟨World.ownsRow_nil _ 0 _ _,fun g hg=>by cases hg⟩
   · simp only[if_neg hj]
     simp[updE] at k;exact k
 refine⟨⟨k4.of_eq fun q=>?_,((h.ev.lab he (by decide) (.txn s)).labMap hmap (.map s)).grow (k2.grow_set hE (5+s) _),h.sl,h.nw,h.nt,h.nv,by simpa [St.setT] using h.n8,h.nc⟩,g⟩;have gt:∀ k,(σ.setT s t).txns.getD k none=if k=s then some t else σ.txns.getD k none:=fun k=>getT_set (by omega) t k
 have tp:∀ k,(A.newTxn s b m).tp (σ.setT s t) k=if k=s then .pointer (some ⟨b,0,none⟩) else A.tp σ k:=by
  intro k;unfold Book.tp;rw[gt];by_cases hk:k=s
  · subst hk;simp[Book.newTxn]
  · simp[hk,Book.newTxn]
 cases hq:q.tx with
 |none=>
  cases q<;>first|rfl|(simp[Role.tx] at hq;done)|skip
  simp only[updE,if_pos,memOf,engCs,tp]
  match s,hs with
  |0,_|1,_|2,_|3,_|4,_|5,_|6,_|7,_=>rfl
 |some k=>
  rw[mem_tx _ _ hq,gt]
  by_cases hk:k=s
  · subst hk
    rw[if_pos rfl]
    cases q<;>simp[Role.tx] at hq<;>subst hq<;>simp[txEntry,updE,Book.newTxn,upF,h1,h2,h3,h4,mapEs,readCs,Txn.cell,memOf,hn2]
  · rw[if_neg hk,←mem_tx _ σ hq]
    have:=mem_butTx (A:=A) (A':={A.newTxn s b m with bt:=A.bt}) (s:=s) ⟨rfl,rfl,rfl,rfl,rfl,rfl,rfl,rfl,rfl,rfl,rfl,rfl,rfl,rfl,rfl,rfl,rfl,fun k hk=>if_neg hk,fun _ _=>rfl,fun k hk=>upF_other _ _ hk,fun k hk=>upF_other _ _ hk,fun k hk=>upF_other _ _ hk,fun k hk=>if_neg hk,fun k hk=>if_neg hk⟩ σ (q:=q) (by rw[hq];simpa using hk);have e2:memOf (A.newTxn s b m) σ q=memOf {A.newTxn s b m with bt:=A.bt} σ q:=by
     cases q<;>simp[Role.tx] at hq<;>subst hq<;>simp[memOf,Book.newTxn,hk,txnCs,mapEs]
    rw[e2,this]
    cases q<;>simp[Role.tx] at hq<;>subst hq<;>simp[updE,hk]
end Go.Proofs.YtpkenfnmkpmapaaGreat.Em
