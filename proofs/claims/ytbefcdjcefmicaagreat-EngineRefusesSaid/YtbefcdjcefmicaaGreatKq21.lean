import Derived.Test.YtbefcdjcefmicaaGreatKq15
import Derived.Laws.ResultCell
import Derived.Laws.Rows
import Derived.Deep.Cut
namespace Go.Proofs.YtbefcdjcefmicaaGreat.Em
open Go.ChangeShapes Go.WideShapes Go.ChangeAt Go.RowKit En
set_option linter.unusedVariables false
set_option linter.unusedSimpArgs false
set_option maxRecDepth 100000
set_option maxHeartbeats 1600000
theorem results_cell_tmp_row {P:Program} {fn:Func} {p u:Tmp} {ty:TypeId} (h:fn.results=#[.cell p ty,.tmp u]) (tmps:Array Value) (w:World) (g:Nat) (t:TypeId) (cs:Array Value) (fr:Nat×Nat) (d:TypeDesc)
 (hp:tmps.getD p undef=.pointer (some ⟨g,0,none⟩)) (hg:w.heap[g]? =some (.cells cs t fr))
 (hu:P.underlying ty=some d) (hd:(match d with|.struct _|.array _ _=>true|_=>false)=true) (hi:(P.info? ty).map (·.size)=some cs.size):
 (results fn tmps).run P w=.ok (.tuple #[.agg cs,tmps.getD u undef]) w:=by
 rw[results_cell_tmp h,hp];simp[asAddr,run_loadVar_row w g t ty cs fr d hg hu hd hi,Result.andThen]
theorem copied_nil (w:World) (re rv ro rr:Int) (a:Option Addr) (cap:Nat):
 Calls Tryz.prog 54 #[.agg #[zi re,zi rv,.slice a 0 cap,zi ro,zi rr]] w fun e w'=>e=.returned (.agg #[zi re,zi rv,.slice none 0 0,zi ro,zi rr])∧Below w.heap.size w w':=by
 have hb:Below w.heap.size w (((w.alloc (.cells #[zi re,zi rv,.slice none 0 0,zi ro,zi rr] 42))).alloc (.cells #[zi re,zi rv,.slice none 0 0,zi ro,zi rr] 42)):=(((Below.refl _ _).alloc (Nat.le_refl _) _)).alloc (by simp) _;have HB:=zH hb;clear hb
 cases a with
 |none=>
  go_enter Tryz.func54,Tryz.ntmps54;go_wp2
  (try simp only[Exit.inBlock,Exit.then])
  refine bodyPost_ret (results_cell_row rfl _ _ (w.heap.size+1) 42 #[zi re,zi rv,.slice none 0 0,zi ro,zi rr] _ _ rfl (heap_alloc2_new w _ _) Tryz.underlying42 rfl (by kernel_rfl)) rfl ?_;exact⟨rfl,HB.out⟩
 |some x=>
  go_enter Tryz.func54,Tryz.ntmps54;go_wp2
  (try simp only[Exit.inBlock,Exit.then])
  refine bodyPost_ret (results_cell_row rfl _ _ (w.heap.size+1) 42 #[zi re,zi rv,.slice none 0 0,zi ro,zi rr] _ _ rfl (heap_alloc2_new w _ _) Tryz.underlying42 rfl (by kernel_rfl)) rfl ?_;exact⟨rfl,HB.out⟩
theorem infoPr:(Tryz.prog.info? 140).map (fun i=>(i.zero,i.size,i.bytes))=some (some (.agg #[zi 0,zi 0]),2,16):=by kernel_rfl
theorem pairCs_one:∀ (l:List (Nat×Nat)),∀ u∈pairCs l,u.oneCell'=true
 |[],u,h=>by cases h
 |p::l,u,h=>by
  have e:pairCs (p::l)=zi (p.1:Int)::zi (p.2:Int)::pairCs l:=rfl;rw[e] at h
  rcases List.mem_cons.1 h with rfl|h
  · rfl
  · rcases List.mem_cons.1 h with rfl|h
    · rfl
    · exact pairCs_one l u h
theorem own_but {w w':World} {base:Nat} {v:Value} {n b:Nat} {xs:List Value} {cs:Array Value} {T:TypeId} (h:w.ownsRow base 140 2 v n xs) (hb:But b w w') (hc:w.heap[b]? =some (.cells cs T)) (hT:T≠140):w'.ownsRow base 140 2 v n xs:=by
 rcases h.2 with ⟨e1,e2⟩|⟨g,cap',cur,hv,hb',hg,hx1,hx2,hx3,hx4⟩
 · exact⟨h.1,.inl ⟨e1,e2⟩⟩
 · have hgne:g≠b:=by
    rintro rfl;rw[hc] at hg;simp only[Option.some.injEq,Obj.cells.injEq] at hg;exact hT hg.2.1
   exact⟨h.1,.inr ⟨g,cap',cur,hv,hb',(hb.block g hgne).trans hg,hx1,hx2,hx3,hx4⟩⟩
theorem copied_any (w:World) (re rv ro rr:Int) (a:Option Addr) (n cap:Nat) (ps:List (Nat×Nat)) (hr:Ow.Row w 0 2 (.slice a n cap) (pairCs ps)) (hn:ps.length=n) (hl:n≤1000000):
 Calls Tryz.prog 54 #[.agg #[zi re,zi rv,.slice a n cap,zi ro,zi rr]] w fun e w'=>∃ a' c',e=.returned (.agg #[zi re,zi rv,.slice a' n c',zi ro,zi rr])∧w'.ownsRow w.heap.size 140 2 (.slice a' n c') n (pairCs ps)∧Below w.heap.size w w':=by
 obtain⟨i0,hi,hz0,hz1,hz2⟩:=info_parts infoPr;have HR:=zH hr;have HM:=zH (zA hn hl);obtain⟨W,hW⟩:∃ W,W=(w.alloc (.cells #[zi re,zi rv,.slice a n cap,zi ro,zi rr] 42)).alloc (.cells #[zi 0,zi 0,.slice none 0 0,zi 0,zi 0] 42):=⟨_,rfl⟩
 have hWs:W.heap.size=w.heap.size+1+1:=by rw[hW];simp
 have hWb:Below w.heap.size w W:=by rw[hW];exact (((Below.refl _ _).alloc (Nat.le_refl _) _)).alloc (by simp) _
 have hW0:W.heap[w.heap.size]? =some (.cells #[zi re,zi rv,.slice a n cap,zi ro,zi rr] 42):=by rw[hW,heap_alloc_old _ _ (by simp),heap_alloc_new]
 have hW1:W.heap[w.heap.size+1]? =some (.cells #[zi 0,zi 0,.slice none 0 0,zi 0,zi 0] 42):=by
  have:=heap_alloc_new (w.alloc (.cells #[zi re,zi rv,.slice a n cap,zi ro,zi rr] 42)) (.cells #[zi 0,zi 0,.slice none 0 0,zi 0,zi 0] 42);rw[hW];simpa using this
 have HW:=zH (zA hWs (zA hWb (zA hW0 (zA hW1 (hr.below hWb)))));have HF:Hid (∀ v' w2,w2.ownsRow w.heap.size 140 2 v' n (pairCs ps)→W.grownBy w2 none→∃ a' c',v'=.slice a' n c'∧w2.heap[w.heap.size]? =some (.cells #[zi re,zi rv,.slice a n cap,zi ro,zi rr] 42)∧w2.heap[w.heap.size+1]? =some (.cells #[zi 0,zi 0,.slice none 0 0,zi 0,zi 0] 42)∧w2.cell? ⟨w.heap.size,2,none⟩=some (.slice a n cap)∧w2.frozen? ⟨w.heap.size,2,none⟩=false∧Below w.heap.size w w2):=by
  intro v' w2 q1 q2;obtain⟨a',c',rfl,_⟩:=Ow.own_form q1;have h0:w2.heap[w.heap.size]? =_:=(q2.block _ (by rw[hWs];omega) (by simp)).trans hW0;have h1:w2.heap[w.heap.size+1]? =_:=(q2.block _ (by rw[hWs];omega) (by simp)).trans hW1;refine⟨a',c',rfl,h0,h1,by simp[World.cell?,h0],by simp[World.frozen?,h0],⟨q2.os.trans hWb.os,q2.tape.trans hWb.tape,q2.output.trans hWb.output,Nat.le_trans hWb.size q2.size,fun b hb=>(q2.block b (by rw[hWs];omega) (by simp)).trans (hWb.block b hb)⟩⟩
 have w1c:W.cell? ⟨w.heap.size,2,none⟩=some (.slice a n cap):=by simp[World.cell?,hW0]
 clear hW0 hW1 hWb hr hn hl;go_enter Tryz.func54,Tryz.ntmps54;go_upto_region 1 with fail
 rw[←hW];clear hW;go_upto_region 2 with (refine Ow.wpList_append_row W rfl (.const (.slice none 0 0)) (.tmp 4) 40 rfl w.heap.size 140 i0 _ 2 16 Tryz.underlying40 hi hz0 hz1 hz2 rfl (by decide) (.slice none 0 0) 0 [] rfl (World.ownsRow_nil _ _ _ _) 0 (.slice a n cap) (pairCs ps) rfl HW.out.2.2.2.2 n (by rw[pairCs_len,HM.out.1]) (pairCs_one ps) (by have:=HM.out.2;unfold maxLen;omega) (by have:=HM.out.2;omega) (by rw[HW.out.1];omega) ?_;intro v' w2 q1 q2;rw[List.nil_append,Nat.zero_add] at q1;obtain⟨a',c',rfl,f0,f1,f2,f3,f4⟩:=HF.out _ _ q1 q2;have HQ:=zH (zA q1 (zA f0 (zA f1 f4)));clear q1 q2 f0 f1 f4)
 generalize hw3:w2.setCell ⟨w.heap.size,2,none⟩ (.slice a' n c')=w3 at*;obtain⟨q1,f0,f1,f4⟩:=HQ.out;have g0:w3.heap[w.heap.size]? =some (.cells #[zi re,zi rv,.slice a' n c',zi ro,zi rr] 42):=by rw[←hw3];exact heap_setCell_same f0 2 _
 have g1:w3.heap[w.heap.size+1]? =some (.cells #[zi 0,zi 0,.slice none 0 0,zi 0,zi 0] 42):=by rw[←hw3,Below.heap_setCell _ _ _ _ (by simp)];exact f1
 have gb:Below w.heap.size w w3:=by rw[←hw3];exact⟨f4.os,f4.tape,f4.output,by simpa [World.setCell] using f4.size,fun b hb=>(Below.heap_setCell _ _ _ _ (by rintro rfl;simp at hb)).trans (f4.block b hb)⟩
 have go:w3.ownsRow w.heap.size 140 2 (.slice a' n c') n (pairCs ps):=by
  rw[←hw3];exact own_but q1 (But.setCell w2 ⟨w.heap.size,2,none⟩ _) f0 (by decide)
 have HG:=zH (zA g0 (zA (there_of g1) (zA gb (zA go g1))));have y0:w3.cell? ⟨w.heap.size,0,none⟩=some (zi re):=by simp[World.cell?,g0]
 have y1:w3.cell? ⟨w.heap.size,1,none⟩=some (zi rv):=by simp[World.cell?,g0]
 have y2:w3.cell? ⟨w.heap.size,2,none⟩=some (.slice a' n c'):=by simp[World.cell?,g0]
 have y3:w3.cell? ⟨w.heap.size,3,none⟩=some (zi ro):=by simp[World.cell?,g0]
 have y4:w3.cell? ⟨w.heap.size,4,none⟩=some (zi rr):=by simp[World.cell?,g0]
 clear q1 f0 f1 f4 g0 g1 gb go HQ HF f2 f3 w1c;go_wp2_with (refine wpList_store_mid rfl 42 (.tmp 2) (.tmp 7) rfl (w.heap.size+1) 0 #[zi re,zi rv,.slice a' n c',zi ro,zi rr] rfl rfl HG.out.2.1 (by kernel_rfl) (by simp[Value.oneCell']) ?_;generalize hws:World.setCells _ _ _ _=ws);have hfin:=heap_setCells5 HG.out.2.2.2.2 (zi re) (zi rv) (.slice a' n c') (zi ro) (zi rr);have hbut:=But.setCells (w.heap.size+1) [zi re,zi rv,.slice a' n c',zi ro,zi rr] 0 w3;rw[show w3.setCells (w.heap.size+1) 0 [zi re,zi rv,.slice a' n c',zi ro,zi rr]=ws from hws] at hbut hfin;refine bodyPost_ret (results_cell_row rfl _ _ (w.heap.size+1) 42 #[zi re,zi rv,.slice a' n c',zi ro,zi rr] _ _ rfl hfin Tryz.underlying42 rfl (by kernel_rfl)) rfl ?_;exact⟨a',c',rfl,own_but HG.out.2.2.2.1 hbut HG.out.2.2.2.2 (by decide),⟨hbut.os.trans HG.out.2.2.1.os,hbut.tape.trans HG.out.2.2.1.tape,hbut.output.trans HG.out.2.2.1.output,by rw[hbut.size];exact HG.out.2.2.1.size,fun b hb=>(hbut.block b (by omega)).trans (HG.out.2.2.1.block b hb)⟩⟩
theorem prow_of_own {L:Lab} {w:World} {base:Nat} {a:Option Addr} {n c:Nat} {xs:List Value} (h:w.ownsRow base 140 2 (.slice a n c) n xs) (hL:∀ b,base≤b→b<w.heap.size→L b=none):PRow L w (.slice a n c) xs:=by
 obtain⟨a',c',e,h1,h2,h3⟩:=Ow.own_form h;obtain⟨rfl,rfl⟩:a=a'∧c=c':=by simpa using e
 refine⟨⟨a,n,c,rfl,h.1,h1,by unfold maxLen;omega,?_⟩,?_⟩
 · rcases h.2 with ⟨h0,hn⟩|⟨g,cap',cur,hv,hb,hg,hnc,hcm,hcs,htake⟩
   · exact .inl (by first|exact h0|omega)
   · obtain⟨rfl,rfl⟩:a=some ⟨g,0,none⟩∧c=cap':=by simpa using hv
     refine .inr ⟨g,0,rfl,hL g (h.lt g rfl).1 (h.lt g rfl).2,(h.lt g rfl).2,fun j hj=>?_⟩;rw[Nat.zero_add];exact h.cellAt j hj
 · intro g off n' cap hv
   rcases h.2 with ⟨h0,hn⟩|⟨g',cap',cur,hv',hb,hg,hnc,hcm,hcs,htake⟩
   · obtain⟨_,rfl,_⟩:a=some ⟨g,off,none⟩∧n=n'∧c=cap:=by simpa using hv
     exact .inl (by first|exact h0|omega)
   · rw[hv'] at hv
     simp only[Value.slice.injEq,Option.some.injEq,Addr.mk.injEq,and_true] at hv;obtain⟨⟨rfl,_⟩,_⟩:=hv;exact .inr ⟨cur,hg⟩
theorem infoLimbo:(Tryz.prog.info? 230).map (fun i=>(i.zero,i.size,i.bytes))=some (some (.agg #[zu 0,zi 0]),2,16):=by kernel_rfl
theorem cutPs_len (l:List (Nat×Nat)):(cutPs l).length=2*l.length:=by
 unfold cutPs
 induction l with
 |nil=>rfl
 |cons a l ih=>rw[List.flatMap_cons,List.length_append,ih];simp;omega
theorem cutPs_on (l:List (Nat×Nat)) (x:Nat×Nat):cutPs (l++[x])=cutPs l++[u64 x.1,i64 x.2]:=by simp[cutPs]
def CutOn (A:Book) (σ:St) (w:World) (x:Nat×Nat) (v:Value) (w':World):Prop:=
 ∃ L hc g cs av cap,v=.slice (some av) (σ.cut.length+1) cap∧Rep {A with L:=L,hcut:=hc,gcut:=g,cutCs:=cs} σ w'∧Grow A.L w L w'∧CutOk {A with L:=L,hcut:=hc,gcut:=g,cutCs:=cs,vcut:=v} (σ.cut++[x])
theorem cut_new {A:Book} {σ:St} {w w':World} {v':Value} {x:Nat×Nat} (hR:Rep A σ w) (h2:w'.ownsRow w.heap.size 230 2 v' (σ.cut.length+1) (cutPs (σ.cut++[x]))) (h3:w.grownBy w' none):CutOn A σ w x v' w':=by
 rcases h2.2 with ⟨_,h0⟩|⟨g,cap,cur,rfl,hbg,hgg,hnc,hcm,hcs,htk⟩
 · omega
 have hb:Below w.heap.size w w':=⟨h3.os,h3.tape,h3.output,h3.size,fun k hk=>h3.block k hk (by simp)⟩
 have hlt:g<w'.heap.size:=lt_of hgg;have hR':=hR.below hb;have hg:Grow A.L w (lab1 A.L g .cut) w':=(Grow.below hb).lab1 hbg _;have hLg:A.L g=none:=hR.mem.fresh g hbg;refine⟨lab1 A.L g .cut,true,g,cur.toList,⟨g,0,none⟩,cap,rfl,⟨?_,hR.ev.grow hg,hR.sl,hR.nw,hR.nt,hR.nv,hR.n8,hR.nc⟩,hg,.inr ⟨rfl,0,cap,by simp,?_,?_,?_,?_⟩⟩
 · refine (hR'.mem.adopt .cut hLg (.obj g cur.toList 230) ⟨lab1_same _ _ _,by simpa using hgg⟩ hlt).of_eq fun q=>?_
   cases q<;>rfl
 · simpa using hnc
 · simpa using hcm
 · show 2*(0+cap)≤cur.toList.length
   simp[hcs];omega
 · show (cur.toList.drop (2*0)).take (2*(σ.cut++[x]).length)=_
   rw[←htk];simp;congr 1;omega
theorem cut_cells {A:Book} {σ:St} {w:World} (hR:Rep A σ w) {k cap:Nat} (hh:A.hcut=true) (hk:2*(k+cap)≤A.cutCs.length) (hn:σ.cut.length≤cap) (ht:(A.cutCs.drop (2*k)).take (2*σ.cut.length)=cutPs σ.cut):
 A.L A.gcut=some .cut∧w.heap[A.gcut]? =some (.cells A.cutCs.toArray 230)∧(∀ j u,(cutPs σ.cut)[j]? =some u→w.cell? ⟨A.gcut,2*k+j,none⟩=some u):=by
 have he:memOf A σ .cut=.obj A.gcut A.cutCs 230:=by simp only[memOf,hh,cond_true]
 have h:=hR.mem.all .cut;rw[he] at h;refine⟨h.1,h.2,fun j u hu=>?_⟩;refine hR.mem.cell he (2*k+j) ?_;rw[←ht,List.getElem?_take] at hu
 split at hu
 · rwa [List.getElem?_drop] at hu
 · cases hu
theorem run_cut {A:Book} {σ:St} {w:World} (hR:Rep A σ w) (hC:CutOk A σ.cut) (hlen:σ.cut.length<1000000) (x:Nat×Nat) (ty:TypeId) (ad:Addr) (h0:w.cell? (ad.add 0)=some (u64 x.1)) (h1:w.cell? (ad.add 1)=some (i64 x.2)):
 ∃ v' w',(Builtin.append_ #[109,109] ty #[A.vcut,.slice (some ad) 1 1]).run Tryz.prog w=.ok v' w'∧CutOn A σ w x v' w':=by
 obtain⟨ii,hii,hz0,hz1,hz2⟩:=info_parts infoLimbo;have hnews:∀ j u,[u64 x.1,i64 x.2][j]? =some u→w.cell? (ad.add j)=some u:=by
  intro j u hu
  match j,hu with
  |0,hu=>obtain rfl:=Option.some.inj hu;exact h0
  |1,hu=>obtain rfl:=Option.some.inj hu;exact h1
  |j+2,hu=>simp at hu
 have hone:∀ u∈[u64 x.1,i64 x.2],u.oneCell'=true:=by intro u hu;simp at hu;rcases hu with rfl|rfl<;>rfl
 rcases hC with ⟨-,hv,hl⟩|⟨hh,k,cap,hv,hn,hm,hk,ht⟩
 · obtain⟨v',w',hr,h2,h3,_⟩:=run_append_own (P:=Tryz.prog) w w.heap.size 109 ty 230 ii _ 2 16 Tryz.underlying109 hii hz0 hz1 hz2 rfl (by decide) (.slice none 0 0) 0 [] (World.ownsRow_nil _ _ _ _) ad 1 1 [u64 x.1,i64 x.2] rfl hnews hone (by unfold maxLen;omega) (by omega) (Nat.le_refl _)
   rw[hv];refine⟨v',w',hr,cut_new hR ?_ h3⟩;rw[hl];exact h2
 · obtain⟨e1,e2,e3⟩:=cut_cells hR hh hk hn ht
   have hadd:∀ j,(⟨A.gcut,2*k,none⟩:Addr).add j=⟨A.gcut,2*k+j,none⟩:=fun j=>Addr.add_lit _ _ _
   rw[hv]
   by_cases hroom:σ.cut.length+1≤cap
   · have hr:=run_append_room_cells (P:=Tryz.prog) w 109 ty 230 ii Tryz.underlying109 hii A.gcut (2*k) σ.cut.length cap ad 1 1 [u64 x.1,i64 x.2] (by rw[hz1];rfl) hnews hone hroom ?_ ?_
     · rw[hz1] at hr
       refine⟨_,_,hr,A.L,A.hcut,A.gcut,(A.cutCs.set (2*k+σ.cut.length*2) (u64 x.1)).set (2*k+σ.cut.length*2+1) (i64 x.2),⟨A.gcut,2*k,none⟩,cap,rfl,?_,?_,.inr ⟨hh,k,cap,?_,?_,hm,?_,?_⟩⟩
       · have he:memOf A σ .cut=.obj A.gcut A.cutCs 230:=by simp only[memOf,hh,cond_true]
         have g1:=hR.mem.grow_set he (2*k+σ.cut.length*2) (u64 x.1);have m1:=hR.mem.put .cut he (2*k+σ.cut.length*2) (u64 x.1);have g2:=m1.grow_set (updE_same _ _ _) (2*k+σ.cut.length*2+1) (i64 x.2);have m2:=m1.put .cut (updE_same _ _ _) (2*k+σ.cut.length*2+1) (i64 x.2);refine⟨m2.of_eq fun q=>?_,hR.ev.grow (g1.trans g2),hR.sl,hR.nw,hR.nt,hR.nv,hR.n8,hR.nc⟩
         cases q<;>first|rfl|(simp only[memOf,hh,cond_true];rfl)
       · have he:memOf A σ .cut=.obj A.gcut A.cutCs 230:=by simp only[memOf,hh,cond_true]
         have g1:=hR.mem.grow_set he (2*k+σ.cut.length*2) (u64 x.1);have m1:=hR.mem.put .cut he (2*k+σ.cut.length*2) (u64 x.1);exact g1.trans (m1.grow_set (updE_same _ _ _) (2*k+σ.cut.length*2+1) (i64 x.2))
       · simp
       · simpa using hroom
       · show _≤((A.cutCs.set _ _).set _ _).length
         simpa using hk
       · show (((A.cutCs.set _ _).set _ _).drop (2*k)).take _=_
         rw[cutPs_on,←ht];apply List.ext_getElem?
         intro j;simp only[List.getElem?_take,List.getElem?_drop,List.getElem?_append,List.length_take,List.length_drop,List.getElem?_set,List.length_set,List.length_append,List.length_cons,List.length_nil];have hmin:min (2*σ.cut.length) (A.cutCs.length - 2*k)=2*σ.cut.length:=by omega
         rw[hmin]
         by_cases hj:j<2*σ.cut.length
         · rw[if_pos (by omega),if_neg (by omega),if_neg (by omega),if_pos hj,if_pos hj]
         · rw[if_neg hj]
           by_cases hj0:j=2*σ.cut.length
           · subst hj0
             rw[if_pos (by omega),if_neg (by omega),if_pos (by omega),if_pos (by omega),Nat.sub_self];rfl
           · by_cases hj1:j=2*σ.cut.length+1
             · subst hj1
               rw[if_pos (by omega),if_pos (by omega),if_pos (by omega),show 2*σ.cut.length+1 - 2*σ.cut.length=1 by omega];rfl
             · rw[if_neg (by omega),List.getElem?_eq_none (by simp;omega)]
     · intro j hj
       rw[hz1];have hlt:2*k+σ.cut.length*2+j<A.cutCs.length:=by simp at hj;omega
       rw[cell_of_row w A.gcut _ _ _ _ e2];simp[hlt]
     · intro j hj
       have he:memOf A σ .cut=.obj A.gcut A.cutCs 230:=by simp only[memOf,hh,cond_true]
       exact hR.mem.frozen he _
   · obtain⟨v',w',hr,h2,h3⟩:=run_append_arg_grows (P:=Tryz.prog) w 109 ty 230 ii _ 2 16 Tryz.underlying109 hii hz0 hz1 hz2 rfl (by decide) ⟨A.gcut,2*k,none⟩ σ.cut.length cap (cutPs σ.cut) (by rw[cutPs_len];omega) (fun j u hu=>by rw[hadd];exact e3 j u hu) ad 1 1 [u64 x.1,i64 x.2] rfl hnews (by omega) (by unfold maxLen;omega) (by omega)
     exact⟨v',w',hr,cut_new hR (by rw[cutPs_on];exact h2) h3⟩
theorem wp_cutN {A:Book} {σ:St} {o:Oper} {a:Act} {K:Act→World→Prop} {Q:Exit→Act→World→Prop} (w W:World) (s y:Operand)
 (ho:o.op=.call {callee:=.builtin .append,args:=#[s,y],argTypes:=#[109,109]})
 (hR:Rep A σ w) (hC:CutOk A σ.cut) (hlen:σ.cut.length<1000000) (v0:Value) (hv0:v0=A.vcut) (hs:a.eval s=v0) (x:Nat×Nat) (hW:W=w.alloc (.cells #[zu (x.1:Int),zi (x.2:Int)] 230)) (hx:a.eval y=.slice (some ⟨w.heap.size,0,none⟩) 1 1)
 (h:∀ av n' cap' w',CutOn A σ w x (.slice av n' cap') w'→K (a.put o.dst (.slice av n' cap')) w'):o.wp Tryz.prog a W K Q:=by
 subst hW;have hR':=hR.alloc (.cells #[zu (x.1:Int),zi (x.2:Int)] 230);obtain⟨v',w',hr,L,hc,g,cs,av,cap,rfl,r',g',c'⟩:=run_cut hR' hC hlen x o.type ⟨w.heap.size,0,none⟩ (Ow.new_row w [zu (x.1:Int),zi (x.2:Int)] _ _ rfl 0 _ rfl) (Ow.new_row w [zu (x.1:Int),zi (x.2:Int)] _ _ rfl 1 _ rfl);unfold Oper.wp execOp;simp only[ho,resolve,invoke,builtin,Sem.run_bind,Sem.run_pure,Result.andThen_ok,List.map_toArray,List.map_cons,List.map_nil,hs,hx,hv0,hr];exact h _ _ _ w' ⟨L,hc,g,cs,av,cap,rfl,r',(Grow.alloc _ _ _).trans g',c'⟩
theorem CutOk.tail {A:Book} {x:Nat×Nat} {l:List (Nat×Nat)} (h:CutOk A (x::l)):∃ k cap,A.hcut=true∧A.vcut=.slice (some ⟨A.gcut,2*k,none⟩) (l.length+1) cap∧l.length+1≤cap∧cap≤maxLen∧2*(k+cap)≤A.cutCs.length
 ∧CutOk {A with vcut:=.slice (if cap=1 then some ⟨A.gcut,2*k,none⟩ else some ⟨A.gcut,2*k+2,none⟩) l.length (cap - 1)} l∧A.cutCs[2*k]? =some (u64 x.1)∧A.cutCs[2*k+1]? =some (i64 x.2):=by
 rcases h with ⟨-,-,hl⟩|⟨hh,k,cap,hv,hn,hm,hk,ht⟩
 · cases hl
 have hc0:A.cutCs[2*k]? =some (u64 x.1)∧A.cutCs[2*k+1]? =some (i64 x.2):=by
  have e:∀ j,j<2→A.cutCs[2*k+j]? =(cutPs (x::l))[j]? :=by
   intro j hj;rw[←ht,List.getElem?_take,if_pos (by simp;omega),List.getElem?_drop]
  exact⟨e 0 (by omega),e 1 (by omega)⟩
 have hn':l.length+1≤cap:=hn;refine⟨k,cap,hh,hv,hn,by omega,hk,?_,hc0.1,hc0.2⟩
 by_cases h1:cap=1
 · have hl:l=[]:=List.eq_nil_of_length_eq_zero (by omega)
   subst hl;subst h1;exact .inr ⟨hh,k,0,rfl,Nat.zero_le _,by omega,by show 2*(k+0)≤A.cutCs.length;omega,by simp[cutPs]⟩
 · refine .inr ⟨hh,k+1,cap - 1,by simp[h1],by omega,by omega,by show 2*(k+1+(cap - 1))≤A.cutCs.length;omega,?_⟩
   show (A.cutCs.drop (2*(k+1))).take (2*l.length)=cutPs l;have e:cutPs l=(cutPs (x::l)).drop 2:=rfl;rw[e,←ht,List.drop_take,List.drop_drop];simp
   congr 1
end Go.Proofs.YtbefcdjcefmicaaGreat.Em
