import Derived.Test.YtmgghljjjpcgkaaGreatQz20
namespace Go.Proofs.YtmgghljjjpcgkaaGreat.Em
open Go.ChangeShapes Go.WideShapes Go.ChangeAt Go.RowKit En
set_option linter.unusedVariables false
set_option linter.unusedSimpArgs false
set_option maxRecDepth 100000
set_option maxHeartbeats 1600000
variable {A:Book} {σ:St} {w:World}
theorem infoLimbo:(Tryz.prog.info? 187).map (fun i=>(i.zero,i.size,i.bytes))=some (some (.agg #[zu 0,zi 0]),2,16):=by kernel_rfl
theorem cutPs_len (l:List (Nat×Nat)):(cutPs l).length=2*l.length:=by
 unfold cutPs
 induction l with
 |nil=>rfl
 |cons a l ih=>rw[List.flatMap_cons,List.length_append,ih];simp;omega
theorem cutPs_on (l:List (Nat×Nat)) (x:Nat×Nat):cutPs (l++[x])=cutPs l++[u64 x.1,i64 x.2]:=by simp[cutPs]
def CutOn (A:Book) (σ:St) (w:World) (x:Nat×Nat) (v:Value) (w':World):Prop:=
 ∃ L hc g cs av cap,v=.slice (some av) (σ.cut.length+1) cap∧Rep {A with L:=L,hcut:=hc,gcut:=g,cutCs:=cs} σ w'∧Grow A.L w L w'∧CutOk {A with L:=L,hcut:=hc,gcut:=g,cutCs:=cs,vcut:=v} (σ.cut++[x])
theorem cut_new {A:Book} {σ:St} {w w':World} {v':Value} {x:Nat×Nat} (hR:Rep A σ w) (h2:w'.ownsRow w.heap.size 187 2 v' (σ.cut.length+1) (cutPs (σ.cut++[x]))) (h3:w.grownBy w' none):CutOn A σ w x v' w':=by
 rcases h2.2 with ⟨_,h0⟩|⟨g,cap,cur,rfl,hbg,hgg,hnc,hcm,hcs,htk⟩
 · omega
 have hb:Below w.heap.size w w':=⟨h3.os,h3.tape,h3.output,h3.size,fun k hk=>h3.block k hk (by simp)⟩
 have hlt:g<w'.heap.size:=lt_of hgg;have hR':=hR.below hb;have hg:Grow A.L w (lab1 A.L g .cut) w':=(Grow.below hb).lab1 hbg _;have hLg:A.L g=none:=hR.mem.fresh g hbg;refine⟨lab1 A.L g .cut,true,g,cur.toList,⟨g,0,none⟩,cap,rfl,⟨?_,hR.ev.grow hg,hR.sl,hR.nw,hR.nt,hR.nv,hR.n8,hR.nc⟩,hg,.inr ⟨rfl,0,cap,by simp,?_,?_,?_,?_⟩⟩
 · refine (hR'.mem.adopt .cut hLg (.obj g cur.toList 187) ⟨lab1_same _ _ _,by simpa using hgg⟩ hlt).of_eq fun q=>?_
   cases q<;>rfl
 · simpa using hnc
 · simpa using hcm
 · show 2*(0+cap)≤cur.toList.length
   simp[hcs];omega
 · show (cur.toList.drop (2*0)).take (2*(σ.cut++[x]).length)=_
   rw[←htk];simp;congr 1;omega
theorem cut_cells (hR:Rep A σ w) {k cap:Nat} (hh:A.hcut=true) (hk:2*(k+cap)≤A.cutCs.length) (hn:σ.cut.length≤cap) (ht:(A.cutCs.drop (2*k)).take (2*σ.cut.length)=cutPs σ.cut):
 A.L A.gcut=some .cut∧w.heap[A.gcut]? =some (.cells A.cutCs.toArray 187)∧(∀ j u,(cutPs σ.cut)[j]? =some u→w.cell? ⟨A.gcut,2*k+j,none⟩=some u):=by
 have he:memOf A σ .cut=.obj A.gcut A.cutCs 187:=by simp only[memOf,hh,cond_true]
 have h:=hR.mem.all .cut;rw[he] at h;refine⟨h.1,h.2,fun j u hu=>?_⟩;refine hR.mem.cell he (2*k+j) ?_;rw[←ht,List.getElem?_take] at hu
 split at hu
 · rwa [List.getElem?_drop] at hu
 · cases hu
theorem run_cut (hR:Rep A σ w) (hC:CutOk A σ.cut) (hlen:σ.cut.length<1000000) (x:Nat×Nat) (ty:TypeId) (ad:Addr) (h0:w.cell? (ad.add 0)=some (u64 x.1)) (h1:w.cell? (ad.add 1)=some (i64 x.2)):
 ∃ v' w',(Builtin.append_ #[90,90] ty #[A.vcut,.slice (some ad) 1 1]).run Tryz.prog w=.ok v' w'∧CutOn A σ w x v' w':=by
 obtain⟨ii,hii,hz0,hz1,hz2⟩:=info_parts infoLimbo;have hnews:∀ j u,[u64 x.1,i64 x.2][j]? =some u→w.cell? (ad.add j)=some u:=by
  intro j u hu
  match j,hu with
  |0,hu=>obtain rfl:=Option.some.inj hu;exact h0
  |1,hu=>obtain rfl:=Option.some.inj hu;exact h1
  |j+2,hu=>simp at hu
 have hone:∀ u∈[u64 x.1,i64 x.2],u.oneCell'=true:=by intro u hu;simp at hu;rcases hu with rfl|rfl<;>rfl
 rcases hC with ⟨-,hv,hl⟩|⟨hh,k,cap,hv,hn,hm,hk,ht⟩
 · obtain⟨v',w',hr,h2,h3,_⟩:=run_append_own (P:=Tryz.prog) w w.heap.size 90 ty 187 ii _ 2 16 Tryz.underlying90 hii hz0 hz1 hz2 rfl (by decide) (.slice none 0 0) 0 [] (World.ownsRow_nil _ _ _ _) ad 1 1 [u64 x.1,i64 x.2] rfl hnews hone (by unfold maxLen;omega) (by omega) (Nat.le_refl _)
   rw[hv];refine⟨v',w',hr,cut_new hR ?_ h3⟩;rw[hl];exact h2
 · obtain⟨e1,e2,e3⟩:=cut_cells hR hh hk hn ht
   have hadd:∀ j,(⟨A.gcut,2*k,none⟩:Addr).add j=⟨A.gcut,2*k+j,none⟩:=fun j=>Addr.add_lit _ _ _
   rw[hv]
   by_cases hroom:σ.cut.length+1≤cap
   · have hr:=run_append_room_cells (P:=Tryz.prog) w 90 ty 187 ii Tryz.underlying90 hii A.gcut (2*k) σ.cut.length cap ad 1 1 [u64 x.1,i64 x.2] (by rw[hz1];rfl) hnews hone hroom ?_ ?_
     · rw[hz1] at hr
       refine⟨_,_,hr,A.L,A.hcut,A.gcut,(A.cutCs.set (2*k+σ.cut.length*2) (u64 x.1)).set (2*k+σ.cut.length*2+1) (i64 x.2),⟨A.gcut,2*k,none⟩,cap,rfl,?_,?_,.inr ⟨hh,k,cap,?_,?_,hm,?_,?_⟩⟩
       · have he:memOf A σ .cut=.obj A.gcut A.cutCs 187:=by simp only[memOf,hh,cond_true]
         have g1:=hR.mem.grow_set he (2*k+σ.cut.length*2) (u64 x.1);have m1:=hR.mem.put .cut he (2*k+σ.cut.length*2) (u64 x.1);have g2:=m1.grow_set (updE_same _ _ _) (2*k+σ.cut.length*2+1) (i64 x.2);have m2:=m1.put .cut (updE_same _ _ _) (2*k+σ.cut.length*2+1) (i64 x.2);refine⟨m2.of_eq fun q=>?_,hR.ev.grow (g1.trans g2),hR.sl,hR.nw,hR.nt,hR.nv,hR.n8,hR.nc⟩
         cases q<;>first|rfl|(simp only[memOf,hh,cond_true];rfl)
       · have he:memOf A σ .cut=.obj A.gcut A.cutCs 187:=by simp only[memOf,hh,cond_true]
         have g1:=hR.mem.grow_set he (2*k+σ.cut.length*2) (u64 x.1);have m1:=hR.mem.put .cut he (2*k+σ.cut.length*2) (u64 x.1);exact g1.trans (m1.grow_set (updE_same _ _ _) (2*k+σ.cut.length*2+1) (i64 x.2))
       · simp
       · simpa using hroom
       · show _≤((A.cutCs.set _ _).set _ _).length
         simpa using hk
       · show (((A.cutCs.set _ _).set _ _).drop (2*k)).take _=_
         rw[cutPs_on,←ht];apply List.ext_getElem?
         intro j;simp only[List.getElem?_take,List.getElem?_drop,List.getElem?_append,List.length_take,List.length_drop,List.getElem?_set,List.length_set,List.length_append,List.length_cons,List.length_nil];have hmin:min (2*σ.cut.length) (A.cutCs.length - 2*k)=2*σ.cut.length:=by omega
         rw[hmin]
         by_cases hj:j<2*σ.cut.length
         · rw[if_pos (by omega),if_neg (by omega),if_neg (by omega),if_pos hj,if_pos hj]
         · rw[if_neg hj]
           by_cases hj0:j=2*σ.cut.length
           · subst hj0
             rw[if_pos (by omega),if_neg (by omega),if_pos (by omega),if_pos (by omega),Nat.sub_self];rfl
           · by_cases hj1:j=2*σ.cut.length+1
             · subst hj1
               rw[if_pos (by omega),if_pos (by omega),if_pos (by omega),show 2*σ.cut.length+1 - 2*σ.cut.length=1 by omega];rfl
             · rw[if_neg (by omega),List.getElem?_eq_none (by simp;omega)]
     · intro j hj
       rw[hz1];have hlt:2*k+σ.cut.length*2+j<A.cutCs.length:=by simp at hj;omega
       rw[cell_of_row w A.gcut _ _ _ _ e2];simp[hlt]
     · intro j hj
       have he:memOf A σ .cut=.obj A.gcut A.cutCs 187:=by simp only[memOf,hh,cond_true]
       exact hR.mem.frozen he _
   · obtain⟨v',w',hr,h2,h3⟩:=run_append_arg_grows (P:=Tryz.prog) w 90 ty 187 ii _ 2 16 Tryz.underlying90 hii hz0 hz1 hz2 rfl (by decide) ⟨A.gcut,2*k,none⟩ σ.cut.length cap (cutPs σ.cut) (by rw[cutPs_len];omega) (fun j u hu=>by rw[hadd];exact e3 j u hu) ad 1 1 [u64 x.1,i64 x.2] rfl hnews (by omega) (by unfold maxLen;omega) (by omega)
     exact⟨v',w',hr,cut_new hR (by rw[cutPs_on];exact h2) h3⟩
theorem wp_cutN {A:Book} {σ:St} {o:Oper} {a:Act} {K:Act→World→Prop} {Q:Exit→Act→World→Prop} (w W:World) (s y:Operand)
 (ho:o.op=.call {callee:=.builtin .append,args:=#[s,y],argTypes:=#[90,90]})
 (hR:Rep A σ w) (hC:CutOk A σ.cut) (hlen:σ.cut.length<1000000) (v0:Value) (hv0:v0=A.vcut) (hs:a.eval s=v0) (x:Nat×Nat) (hW:W=w.alloc (.cells #[zu (x.1:Int),zi (x.2:Int)] 187)) (hx:a.eval y=.slice (some ⟨w.heap.size,0,none⟩) 1 1)
 (h:∀ av n' cap' w',CutOn A σ w x (.slice av n' cap') w'→K (a.put o.dst (.slice av n' cap')) w'):o.wp Tryz.prog a W K Q:=by
 subst hW;have hR':=hR.alloc (.cells #[zu (x.1:Int),zi (x.2:Int)] 187);obtain⟨v',w',hr,L,hc,g,cs,av,cap,rfl,r',g',c'⟩:=run_cut hR' hC hlen x o.type ⟨w.heap.size,0,none⟩ (Ow.new_row w [zu (x.1:Int),zi (x.2:Int)] _ _ rfl 0 _ rfl) (Ow.new_row w [zu (x.1:Int),zi (x.2:Int)] _ _ rfl 1 _ rfl);unfold Oper.wp execOp;simp only[ho,resolve,invoke,builtin,Sem.run_bind,Sem.run_pure,Result.andThen_ok,List.map_toArray,List.map_cons,List.map_nil,hs,hx,hv0,hr];exact h _ _ _ w' ⟨L,hc,g,cs,av,cap,rfl,r',(Grow.alloc _ _ _).trans g',c'⟩
theorem CutOk.tail {A:Book} {x:Nat×Nat} {l:List (Nat×Nat)} (h:CutOk A (x::l)):∃ k cap,A.hcut=true∧A.vcut=.slice (some ⟨A.gcut,2*k,none⟩) (l.length+1) cap∧l.length+1≤cap∧cap≤maxLen∧2*(k+cap)≤A.cutCs.length
 ∧CutOk {A with vcut:=.slice (if cap=1 then some ⟨A.gcut,2*k,none⟩ else some ⟨A.gcut,2*k+2,none⟩) l.length (cap - 1)} l∧A.cutCs[2*k]? =some (u64 x.1)∧A.cutCs[2*k+1]? =some (i64 x.2):=by
 rcases h with ⟨-,-,hl⟩|⟨hh,k,cap,hv,hn,hm,hk,ht⟩
 · cases hl
 have hc0:A.cutCs[2*k]? =some (u64 x.1)∧A.cutCs[2*k+1]? =some (i64 x.2):=by
  have e:∀ j,j<2→A.cutCs[2*k+j]? =(cutPs (x::l))[j]? :=by
   intro j hj;rw[←ht,List.getElem?_take,if_pos (by simp;omega),List.getElem?_drop]
  exact⟨e 0 (by omega),e 1 (by omega)⟩
 have hn':l.length+1≤cap:=hn;refine⟨k,cap,hh,hv,hn,by omega,hk,?_,hc0.1,hc0.2⟩
 by_cases h1:cap=1
 · have hl:l=[]:=List.eq_nil_of_length_eq_zero (by omega)
   subst hl;subst h1;exact .inr ⟨hh,k,0,rfl,Nat.zero_le _,by omega,by show 2*(k+0)≤A.cutCs.length;omega,by simp[cutPs]⟩
 · refine .inr ⟨hh,k+1,cap - 1,by simp[h1],by omega,by omega,by show 2*(k+1+(cap - 1))≤A.cutCs.length;omega,?_⟩
   show (A.cutCs.drop (2*(k+1))).take (2*l.length)=cutPs l;have e:cutPs l=(cutPs (x::l)).drop 2:=rfl;rw[e,←ht,List.drop_take,List.drop_drop];simp
   congr 1
theorem cell_alloc_keep' {w:World} {o:Obj} {a:Addr} {v:Value} (h:w.cell? a=some v):(w.alloc o).cell? a=some v:=by
 rw[World.cell?_alloc_some _ _ _ (by rw[h];rfl)];exact h
theorem CutOk.form {A:Book} {l:List (Nat×Nat)} (h:CutOk A l):∃ av n c,A.vcut=.slice av n c:=by
 rcases h with ⟨-,h,-⟩|⟨-,k,cap,h,-⟩<;>exact⟨_,_,_,h⟩
theorem k_cut_miss (hR:Rep A σ w) (key ahead link nx:Nat) (hk:key≤63) (hah:ahead=0) (hok:σ.word (9+key)≠link) (hcnt:σ.count<4000000000000000000) (b0 b1 b2 b3 b4:Nat) (B0:Box A.L w b0 (zu (ahead:Int))) (B1:Box A.L w b1 (.pointer (some ⟨A.be,0,none⟩))) (B2:Box A.L w b2 (zu (nx:Int))) (B3:Box A.L w b3 (zi (key:Int))) (B4:Box A.L w b4 (zu (link:Int))):
 Calls Tryz.prog 212 #[.pointer (some ⟨b0,0,none⟩),.pointer (some ⟨b1,0,none⟩),.pointer (some ⟨b2,0,none⟩),.pointer (some ⟨b3,0,none⟩),.pointer (some ⟨b4,0,none⟩)] w (SRan A σ w (σ.sweepRun (.cut key ahead link nx))):=by
 have c0:=B0.cell;have c1:=B1.cell;have c2:=B2.cell;have c3:=B3.cell;have c4:=B4.cell;have e2:=hR.z2;have hsl:=hR.sl;have n1:IntKind.i64.wrap (9+(key:Int))=9+(key:Int):=by rw[IntKind.wrap_i64];omega
 have HRd:Hid (Rep A σ w.drew):=hR.drew;have HG:=zG A.L w;have HKK:Hid (∀ σ' w',Rep A σ' w'→Grow A.L w A.L w'→w'.cell? ⟨b0,0,none⟩=some (zu (ahead:Int))∧w'.cell? ⟨b1,0,none⟩=some (.pointer (some ⟨A.be,0,none⟩))∧w'.cell? ⟨b2,0,none⟩=some (zu (nx:Int))∧w'.cell? ⟨b3,0,none⟩=some (zi (key:Int))∧w'.cell? ⟨b4,0,none⟩=some (zu (link:Int))∧w'.cell? ⟨A.be,2,none⟩=some (.pointer (some ⟨A.ba,0,none⟩))):=fun σ' w' r g=>⟨(B0.grow g).cell,(B1.grow g).cell,(B2.grow g).cell,(B3.grow g).cell,(B4.grow g).cell,r.eng 2 rfl⟩
 have HKS:Hid (∀ σ' w' x,Rep A σ' w'→Grow A.L w A.L w'→(w'.setCell ⟨A.be,25,none⟩ x).cell? ⟨b0,0,none⟩=some (zu (ahead:Int))∧(w'.setCell ⟨A.be,25,none⟩ x).cell? ⟨b1,0,none⟩=some (.pointer (some ⟨A.be,0,none⟩))∧(w'.setCell ⟨A.be,25,none⟩ x).cell? ⟨b2,0,none⟩=some (zu (nx:Int))∧(w'.setCell ⟨A.be,25,none⟩ x).cell? ⟨b3,0,none⟩=some (zi (key:Int))∧(w'.setCell ⟨A.be,25,none⟩ x).cell? ⟨b4,0,none⟩=some (zu (link:Int))∧(w'.setCell ⟨A.be,25,none⟩ x).cell? ⟨A.be,2,none⟩=some (.pointer (some ⟨A.ba,0,none⟩))):=fun σ' w' x r g=>let ⟨r',g'⟩:=r.sweepSet x .now;⟨(B0.grow (g.trans g')).cell,(B1.grow (g.trans g')).cell,(B2.grow (g.trans g')).cell,(B3.grow (g.trans g')).cell,(B4.grow (g.trans g')).cell,r'.eng 2 rfl⟩
 have f1:((ahead:Int)=0)=True:=by simp;omega
 have f2:((ahead:Int)==0)=true:=by simp;omega
 have f3:((ahead:Int) !=0)=false:=by simp;omega
 have HCA:Hid (∀ w',Rep A σ w'→Calls Tryz.prog 48 #[.pointer (some ⟨A.ba,0,none⟩),zi (9+(key:Int)),zu (link:Int),zu (nx:Int)] w' (Did A w' σ.tick (.bool false))):=fun w' r=>by
  have hh:=cas_any r (9+key) link nx (by rw[r.nw];omega) hcnt;rw[show ((9+key:Nat):Int)=9+(key:Int) by omega,show σ.cas (9+key) link nx=σ.tick by unfold St.cas;rw[if_neg hok],show (σ.word (9+key)==link)=false by simpa using hok] at hh;exact hh
 have HM:Hid (∀ w',Rep A σ.tick w'→Calls Tryz.prog 116 #[.pointer (some ⟨A.be,0,none⟩),zi (key:Int)] w' (STells A σ.tick w' (headS key))):=fun w' r=>shead_any r key (by omega)
 have HRES:σ.sweepRun (.cut key ahead link nx)=({σ.tick with sw:=headS key},true):=by simp only[St.sweepRun];rw[if_neg (fun h=>h hah),if_neg hok]
 rw[HRES,show headS key=some (.head key) by unfold headS;rw[if_neg (by omega)]];rw[show headS key=some (.head key) by unfold headS;rw[if_neg (by omega)]] at HM;clear hR hcnt hok B0 B1 B2 B3 B4 hsl HRES hah hk;go_enter Tryz.func212,Tryz.ntmps212;go_wp2_with fail
 go_region_held3 (fun w'=>w'.cell? ⟨b0,0,none⟩=some (zu (ahead:Int))∧w'.cell? ⟨b1,0,none⟩=some (.pointer (some ⟨A.be,0,none⟩))∧w'.cell? ⟨b2,0,none⟩=some (zu (nx:Int))∧w'.cell? ⟨b3,0,none⟩=some (zi (key:Int))∧w'.cell? ⟨b4,0,none⟩=some (zu (link:Int))∧w'.cell? ⟨A.be,2,none⟩=some (.pointer (some ⟨A.ba,0,none⟩)))
  (first|exact⟨c0,c1,c2,c3,c4,e2⟩|assumption|go_keep|exact HKK.out _ _ (by assumption) (by assumption))
  (first|(go_at_call 48;refine (HCA.out _ HRd.out).mono ?_;rintro e w1 ⟨rfl,q1,q2⟩;have q4:=HG.out.trans q2;clear q2))
 obtain⟨d0,d1,d2,d3,d4,d5⟩:=HKK.out _ _ q1 q4;have HQ1:=zH q1.drew;have HG1:=zH (q4.trans (Grow.drew _ _));clear q1 q4;go_wp2_with fail
 go_region_held3 (fun w'=>w'.cell? ⟨b0,0,none⟩=some (zu (ahead:Int))∧w'.cell? ⟨b1,0,none⟩=some (.pointer (some ⟨A.be,0,none⟩))∧w'.cell? ⟨b2,0,none⟩=some (zu (nx:Int))∧w'.cell? ⟨b3,0,none⟩=some (zi (key:Int))∧w'.cell? ⟨b4,0,none⟩=some (zu (link:Int))∧w'.cell? ⟨A.be,2,none⟩=some (.pointer (some ⟨A.ba,0,none⟩)))
  (first|exact⟨d0,d1,d2,d3,d4,d5⟩|assumption|go_keep|exact HKK.out _ _ (by assumption) (by assumption)|exact HKS.out _ _ _ (by assumption) (by assumption))
  (first|(go_at_call 116;refine (HM.out _ HQ1.out).mono ?_;rintro e w2 ⟨v,rfl,p1,p2,p3⟩;obtain⟨fv,fb,fc,e3⟩:=SRep.form p3;subst e3;obtain⟨vo,y25⟩:∃ vo,w2.cell? ⟨A.be,25,none⟩=some vo:=⟨_,p1.eng 25 (v:=A.sv σ.tick.sw) rfl⟩;have z25:=p1.engF 25;have q5:=HG1.out.trans p2;have HP:=zH p3;clear p2 p3))
 go_wp2_with fail;go_ret;obtain⟨A',a1,a2,a3,a4,a5⟩:=p1.sweepPut _ _ HP.out;exact⟨rfl,A',a1,a3,q5.trans a4,a5,fun hc=>hc.keep a2 rfl (q5.trans a4)⟩
set_option maxHeartbeats 16000000 in
theorem k_cut_on (hR:Rep A σ w) (key ahead link nx:Nat) (hk:key≤63) (hah:ahead=0∧σ.word (9+key)=link∨VL σ ahead) (hck:CutOk A σ.cut) (hln:σ.cut.length<1000000) (hcnt:σ.count<4000000000000000000) (b0 b1 b2 b3 b4:Nat) (B0:Box A.L w b0 (zu (ahead:Int))) (B1:Box A.L w b1 (.pointer (some ⟨A.be,0,none⟩))) (B2:Box A.L w b2 (zu (nx:Int))) (B3:Box A.L w b3 (zi (key:Int))) (B4:Box A.L w b4 (zu (link:Int))):
 Calls Tryz.prog 212 #[.pointer (some ⟨b0,0,none⟩),.pointer (some ⟨b1,0,none⟩),.pointer (some ⟨b2,0,none⟩),.pointer (some ⟨b3,0,none⟩),.pointer (some ⟨b4,0,none⟩)] w (SRan A σ w (σ.sweepRun (.cut key ahead link nx))):=by
 have c0:=B0.cell;have c1:=B1.cell;have c2:=B2.cell;have c3:=B3.cell;have c4:=B4.cell;have e2:=hR.z2;have hsl:=hR.sl;have n1:IntKind.i64.wrap (9+(key:Int))=9+(key:Int):=by rw[IntKind.wrap_i64];omega
 have HRd:Hid (Rep A σ w.drew):=hR.drew;have HG:=zG A.L w;have HKK:Hid (∀ σ' w',Rep A σ' w'→Grow A.L w A.L w'→w'.cell? ⟨b0,0,none⟩=some (zu (ahead:Int))∧w'.cell? ⟨b1,0,none⟩=some (.pointer (some ⟨A.be,0,none⟩))∧w'.cell? ⟨b2,0,none⟩=some (zu (nx:Int))∧w'.cell? ⟨b3,0,none⟩=some (zi (key:Int))∧w'.cell? ⟨b4,0,none⟩=some (zu (link:Int))∧w'.cell? ⟨A.be,2,none⟩=some (.pointer (some ⟨A.ba,0,none⟩))):=fun σ' w' r g=>⟨(B0.grow g).cell,(B1.grow g).cell,(B2.grow g).cell,(B3.grow g).cell,(B4.grow g).cell,r.eng 2 rfl⟩
 have HK3:Hid (∀ L' w',Grow A.L w L' w'→w'.cell? ⟨b0,0,none⟩=some (zu (ahead:Int))∧w'.cell? ⟨b1,0,none⟩=some (.pointer (some ⟨A.be,0,none⟩))∧w'.cell? ⟨b2,0,none⟩=some (zu (nx:Int))∧w'.cell? ⟨b3,0,none⟩=some (zi (key:Int))∧w'.cell? ⟨b4,0,none⟩=some (zu (link:Int))):=fun L' w' g=>⟨(B0.grow g).cell,(B1.grow g).cell,(B2.grow g).cell,(B3.grow g).cell,(B4.grow g).cell⟩
 obtain⟨av0,n0,c0',hvc⟩:=hck.form
 rcases hah with ⟨hah,hok⟩|hah
 · have f1:((ahead:Int)=0)=True:=by simp;omega
   have f2:((ahead:Int)==0)=true:=by simp;omega
   have f3:((ahead:Int) !=0)=false:=by simp;omega
   have HCA:Hid (∀ w',Rep A σ w'→Calls Tryz.prog 48 #[.pointer (some ⟨A.ba,0,none⟩),zi (9+(key:Int)),zu (link:Int),zu (nx:Int)] w' (Did A w' (σ.put (9+key) nx) (.bool true))):=fun w' r=>by
    have hh:=cas_any r (9+key) link nx (by rw[r.nw];omega) hcnt;rw[show ((9+key:Nat):Int)=9+(key:Int) by omega,show σ.cas (9+key) link nx=σ.put (9+key) nx by unfold St.cas;rw[if_pos hok],show (σ.word (9+key)==link)=true by rw[hok];simp] at hh;exact hh
   have HRES:σ.sweepRun (.cut key ahead link nx)=({σ.put (9+key) nx with cut:=σ.cut++[(link,σ.seq)],cuts:=σ.cuts+1,sw:=visitS key ahead nx},true):=by simp only[St.sweepRun];rw[if_neg (fun h=>h hah),if_pos hok]
   rw[HRES];obtain⟨σp,hσp⟩:∃ σp,σp=σ.put (9+key) nx:=⟨_,rfl⟩
   have HSP:Hid (σp.cut=σ.cut∧σp.seq=σ.seq∧σp.cuts=σ.cuts):=by rw[hσp];exact⟨rfl,rfl,rfl⟩
   have HCK:Hid (CutOk A σp.cut∧σp.cut.length<1000000):=by rw[HSP.out.1];exact⟨hck,hln⟩
   rw[←hσp] at HCA ⊢;clear hR hcnt hok B0 B1 B2 B3 B4 hsl HRES hah hσp hck hln;go_enter Tryz.func212,Tryz.ntmps212;go_wp2_with fail
   go_region_held3 (fun w'=>w'.cell? ⟨b0,0,none⟩=some (zu (ahead:Int))∧w'.cell? ⟨b1,0,none⟩=some (.pointer (some ⟨A.be,0,none⟩))∧w'.cell? ⟨b2,0,none⟩=some (zu (nx:Int))∧w'.cell? ⟨b3,0,none⟩=some (zi (key:Int))∧w'.cell? ⟨b4,0,none⟩=some (zu (link:Int))∧w'.cell? ⟨A.be,2,none⟩=some (.pointer (some ⟨A.ba,0,none⟩)))
    (first|exact⟨c0,c1,c2,c3,c4,e2⟩|assumption|go_keep|exact HKK.out _ _ (by assumption) (by assumption))
    (first|(go_at_call 48;refine (HCA.out _ HRd.out).mono ?_;rintro e w1 ⟨rfl,q1,q2⟩;have q4:=HG.out.trans q2;clear q2))
   obtain⟨d0,d1,d2,d3,d4,d5⟩:=HKK.out _ _ q1 q4;have y27:w1.cell? ⟨A.be,27,none⟩=some (.slice av0 n0 c0'):=(q1.eng 27 rfl).trans (congrArg some hvc);have z27:=q1.engF 27;have y22:w1.cell? ⟨A.be,22,none⟩=some (zi (σ.seq:Int)):=(q1.eng 22 rfl).trans (by rw[HSP.out.2.1]);have HQ:=zH (zA q1 q4);clear q1 q4;go_wp2_with fail;refine wp_region_held_drew (S:=fun w'=>w'.cell? ⟨b1,0,none⟩=some (.pointer (some ⟨A.be,0,none⟩))∧w'.cell? ⟨b4,0,none⟩=some (zu (link:Int))∧w'.cell? ⟨A.be,22,none⟩=some (zi (σ.seq:Int))) (by kernel_rfl) ?_ (fun hHeld=>?_)
   · (try dsimp only);exact⟨d1,d4,y22⟩
   have HQD:=zH (zA HQ.out.1.drew (HQ.out.2.trans (Grow.drew A.L w1)));have y27d:w1.drew.cell? ⟨A.be,27,none⟩=some (.slice av0 n0 c0'):=y27;have z27d:w1.drew.frozen? ⟨A.be,27,none⟩=false:=z27;clear d0 d1 d2 d3 d4 d5 y22 y27 z27 HQ;generalize w1.drew=vd at*;have y27a:∀ ob,(vd.alloc ob).cell? ⟨A.be,27,none⟩=some (.slice av0 n0 c0'):=fun ob=>cell_alloc_keep' y27d
   refine zqt (i:=0) rfl hHeld ?_
   (try simp only[zqa,zqb,zqc,Act.put,zqd,zqe,zqf])
   refine zqt (i:=1) rfl hHeld ?_
   (try simp only[zqa,zqb,zqc,Act.put,zqd,zqe,zqf])
   refine zqt (i:=2) rfl hHeld ?_
   (try simp only[zqa,zqb,zqc,Act.put,zqd,zqe,zqf])
   refine zqt (i:=3) rfl hHeld ?_
   (try simp only[zqa,zqb,zqc,Act.put,zqd,zqe,zqf])
   refine zqt (i:=4) rfl hHeld ?_
   (try simp only[zqa,zqb,zqc,Act.put,zqd,zqe,zqf])
   refine zqt (i:=6) rfl hHeld ?_
   (try simp only[zqa,zqb,zqc,Act.put,zqd,zqe,zqf])
   refine zqt (i:=7) rfl hHeld ?_
   (try simp only[zqa,zqb,zqc,Act.put,zqd,zqe,zqf])
   refine zqt (i:=8) rfl hHeld ?_
   (try simp only[zqa,zqb,zqc,Act.put,zqd,zqe,zqf])
   refine zqt (i:=9) rfl hHeld ?_
   (try simp only[zqa,zqb,zqc,Act.put,zqd,zqe,zqf])
   refine zqt (i:=10) rfl hHeld ?_
   (try simp only[zqa,zqb,zqc,Act.put,zqd,zqe,zqf])
   refine zqt (i:=11) rfl hHeld ?_
   (try simp only[zqa,zqb,zqc,Act.put,zqd,zqe,zqf])
   refine wpAnyH_ready (rs:=[5,12]) (by kernel_rfl) (by simp) ?_;refine AllReadyH.cons (o:=_) rfl (fun K hK=>?_) (AllReadyH.cons (o:=_) rfl (fun K hK=>?_) AllReadyH.nil)
   focus (
    go_simp
    refine hK.out _ _ ?_ (fun hHeld=>?_)
    · (try dsimp only);exact hHeld
    clear hK K
    (try simp only[zqa,zqb,zqc,Act.put,zqd,zqe,zqf])
    refine wpAnyH_ready (rs:=[12]) (by kernel_rfl) (by simp) ?_
    refine AllReadyH.cons (o:=_) rfl (fun K hK=>?_) AllReadyH.nil
    go_simp
    refine hK.out _ _ ?_ (fun hHeld=>?_)
    · (try dsimp only);exact⟨cell_alloc_keep' hHeld.1,cell_alloc_keep' hHeld.2.1,cell_alloc_keep' hHeld.2.2⟩
    clear hK K
    (try simp only[zqa,zqb,zqc,Act.put,zqd,zqe,zqf])
   )
   rotate_left
   focus (
    go_simp
    refine hK.out _ _ ?_ (fun hHeld=>?_)
    · (try dsimp only);exact⟨cell_alloc_keep' hHeld.1,cell_alloc_keep' hHeld.2.1,cell_alloc_keep' hHeld.2.2⟩
    clear hK K
    (try simp only[zqa,zqb,zqc,Act.put,zqd,zqe,zqf])
    refine wpAnyH_ready (rs:=[5]) (by kernel_rfl) (by simp) ?_
    refine AllReadyH.cons (o:=_) rfl (fun K hK=>?_) AllReadyH.nil
    go_simp
    refine hK.out _ _ ?_ (fun hHeld=>?_)
    · (try dsimp only);exact hHeld
    clear hK K
    (try simp only[zqa,zqb,zqc,Act.put,zqd,zqe,zqf])
   )
   rotate_left
   all_goals (
    refine wpAnyH_ready (rs:=[13]) (by kernel_rfl) (by simp) ?_
    refine AllReadyH.cons (o:=_) rfl (fun K hK=>?_) AllReadyH.nil
    rw[if_pos (by rfl)]
    refine wp_cutN vd (vd.alloc (.cells #[zu (link:Int),zi (σ.seq:Int)] 187)) (.tmp 38) (.tmp 45) rfl HQD.out.1 HCK.out.1 HCK.out.2 (.slice av0 n0 c0') hvc.symm rfl (link,σ.seq) rfl rfl ?_;intro avl nl capl wl hon;obtain⟨L2,hc2,g2',cs2,av2,cap2,eon,rl,gl,ckl⟩:=hon;have y27l:wl.cell? ⟨A.be,27,none⟩=some (.slice av0 n0 c0'):=(rl.eng 27 rfl).trans (congrArg some hvc);have z27l:wl.frozen? ⟨A.be,27,none⟩=false:=rl.engF 27;have t1:=(HK3.out _ _ (HQD.out.2.trans gl)).2.1;have t4:=(HK3.out _ _ (HQD.out.2.trans gl)).2.2.2.2;have t22:wl.cell? ⟨A.be,22,none⟩=some (zi (σ.seq:Int)):=(rl.eng 22 rfl).trans (by rw[HSP.out.2.1]);have HQL:=zH (zA rl (zA (HQD.out.2.trans gl) (by rw[HSP.out.1] at ckl;exact ckl)));clear eon gl ckl;have HST5:Hid ((wl.setCell ⟨A.be,27,none⟩ (.slice avl nl capl)).cell? ⟨b1,0,none⟩=some (.pointer (some ⟨A.be,0,none⟩))∧(wl.setCell ⟨A.be,27,none⟩ (.slice avl nl capl)).cell? ⟨b4,0,none⟩=some (zu (link:Int))∧(wl.setCell ⟨A.be,27,none⟩ (.slice avl nl capl)).cell? ⟨A.be,22,none⟩=some (zi (σ.seq:Int))):=⟨(HK3.out _ _ (HQL.out.2.1.trans (rl.cutSet (.slice avl nl capl) [] 0).2)).2.1,(HK3.out _ _ (HQL.out.2.1.trans (rl.cutSet (.slice avl nl capl) [] 0).2)).2.2.2.2,by rw[World.cell?_setCell_other _ _ _ _ (by simp)];exact t22⟩;clear rl
    refine hK.out _ _ ?_ (fun hHeld=>?_)
    · (try dsimp only);exact⟨t1,t4,t22⟩
    clear hK K
    (try simp only[zqa,zqb,zqc,Act.put,zqd,zqe,zqf])
    refine zqt (i:=14) rfl hHeld ?_
    (try simp only[zqa,zqb,zqc,Act.put,zqd,zqe,zqf])
    refine zqt (i:=15) rfl hHeld ?_
    (try simp only[zqa,zqb,zqc,Act.put,zqd,zqe,zqf])
    refine zqt (i:=16) rfl hHeld ?_
    (try simp only[zqa,zqb,zqc,Act.put,zqd,zqe,zqf])
    refine wpAnyH_ready (rs:=[17]) (by kernel_rfl) (by simp) ?_
    refine AllReadyH.cons (o:=_) rfl (fun K hK=>?_) AllReadyH.nil
    go_simp
    refine hK.out _ _ ?_ (fun hHeld=>?_)
    · (try dsimp only);exact HST5.out
    clear hK K
    (try simp only[zqa,zqb,zqc,Act.put,zqd,zqe,zqf])
    refine wpAnyH_done (by kernel_rfl) ?_ _
   )
   all_goals (
    clear t1 t4 t22 hHeld y27d z27d y27a
    obtain⟨hon1,hon2,hon3⟩:=HQL.out
    obtain⟨r5,g5⟩:=hon1.cutSet (.slice avl nl capl) (σ.cut++[(link,σ.seq)]) (σ.cuts+1)
    obtain⟨A2,hA2⟩:∃ A2:Book,A2={A with L:=L2,hcut:=hc2,gcut:=g2',cutCs:=cs2,vcut:=.slice avl nl capl}:=⟨_,rfl⟩
    have e2be:A2.be=A.be:=by rw[hA2]
    have e2L:A2.L=L2:=by rw[hA2]
    have hso:SOnly A A2:=by rw[hA2];exact⟨⟨_,_,_,_,_,_,_,_,rfl⟩,rfl⟩
    have hck:CutOk A2 (σ.cut++[(link,σ.seq)]):=by rw[hA2];exact hon3
    replace r5:Rep A2 {σp with cut:=σ.cut++[(link,σ.seq)],cuts:=σ.cuts+1} (wl.setCell ⟨A.be,27,none⟩ (.slice avl nl capl)):=by rw[hA2];exact r5
    generalize hw5:wl.setCell ⟨A.be,27,none⟩ (.slice avl nl capl)=w5 at*
    have hg5:Grow A.L w A2.L w5:=by rw[e2L];exact hon2.trans g5
    have HF5:=zH (zA hso (zA e2be hck))
    have hM:=svisit_any r5.drew key ahead nx hk
    rw[e2be] at hM
    have HM:=zH hM
    clear hM hk hA2 hso hck hon1 hon2 hon3 g5 HQL y27l z27l
    have HKK2:Hid (∀ σ' w',Rep A2 σ' w'→Grow A.L w A2.L w'→w'.cell? ⟨b0,0,none⟩=some (zu (ahead:Int))∧w'.cell? ⟨b1,0,none⟩=some (.pointer (some ⟨A.be,0,none⟩))∧w'.cell? ⟨b2,0,none⟩=some (zu (nx:Int))∧w'.cell? ⟨b3,0,none⟩=some (zi (key:Int))∧w'.cell? ⟨b4,0,none⟩=some (zu (link:Int))):=fun σ' w' r g=>HK3.out _ w' g
    have HKS2:Hid (∀ σ' w' x,Rep A2 σ' w'→Grow A.L w A2.L w'→(w'.setCell ⟨A.be,25,none⟩ x).cell? ⟨b0,0,none⟩=some (zu (ahead:Int))∧(w'.setCell ⟨A.be,25,none⟩ x).cell? ⟨b1,0,none⟩=some (.pointer (some ⟨A.be,0,none⟩))∧(w'.setCell ⟨A.be,25,none⟩ x).cell? ⟨b2,0,none⟩=some (zu (nx:Int))∧(w'.setCell ⟨A.be,25,none⟩ x).cell? ⟨b3,0,none⟩=some (zi (key:Int))∧(w'.setCell ⟨A.be,25,none⟩ x).cell? ⟨b4,0,none⟩=some (zu (link:Int))):=fun σ' w' x r g=>by
     have h:=(r.sweepSet x .now).2
     rw[e2be] at h
     exact HK3.out _ _ (g.trans h)
    obtain⟨g0,g1,g2,g3,g4⟩:=HKK2.out _ _ r5 hg5
    have HG5:=zH (hg5.trans (Grow.drew A2.L w5))
    clear hg5 r5
    cases hkk:visitS key ahead nx with
    |none=>
     rw[hkk] at HM
     go_wp2_with fail
     go_region_held3 (fun w'=>w'.cell? ⟨b0,0,none⟩=some (zu (ahead:Int))∧w'.cell? ⟨b1,0,none⟩=some (.pointer (some ⟨A.be,0,none⟩))∧w'.cell? ⟨b2,0,none⟩=some (zu (nx:Int))∧w'.cell? ⟨b3,0,none⟩=some (zi (key:Int))∧w'.cell? ⟨b4,0,none⟩=some (zu (link:Int)))
      (first|exact⟨g0,g1,g2,g3,g4⟩|assumption|go_keep|exact HKK2.out _ _ (by assumption) (by assumption)|exact HKS2.out _ _ _ (by assumption) (by assumption))
      (first|(go_at_call 147;refine HM.out.mono ?_;rintro e w2 ⟨v,rfl,p1,p2,p3⟩;have e3:v=.nilFunc:=p3;subst e3;have z25:=p1.engF 25;obtain⟨vo,y25⟩:∃ vo,w2.cell? ⟨A2.be,25,none⟩=some vo:=⟨_,p1.eng 25 rfl⟩;rw[HF5.out.2.1] at z25 y25;have q5:=HG5.out.trans p2;have HP:=zH p3;have HPG:=zH p2;clear p2 p3))
     go_wp2_with fail
     go_ret
     obtain⟨k1,k2,k3⟩:=HF5.out
     obtain⟨A',a1,a2,a3,a4,a5⟩:=p1.sweepPut _ _ HP.out
     rw[k2] at a3 a4 a5
     rw[hkk]
     exact⟨rfl,A',k1.trans a1,a3,q5.trans a4,a5,fun _=>CRow.keep (A:=A2) (σ:={σp with cut:=σ.cut++[(link,σ.seq)],cuts:=σ.cuts+1}) (w:=w5) k3 a2 rfl (((Grow.drew A2.L w5).trans HPG.out).trans a4)⟩
    |some kx=>
     rw[hkk] at HM
     go_wp2_with fail
     go_region_held3 (fun w'=>w'.cell? ⟨b0,0,none⟩=some (zu (ahead:Int))∧w'.cell? ⟨b1,0,none⟩=some (.pointer (some ⟨A.be,0,none⟩))∧w'.cell? ⟨b2,0,none⟩=some (zu (nx:Int))∧w'.cell? ⟨b3,0,none⟩=some (zi (key:Int))∧w'.cell? ⟨b4,0,none⟩=some (zu (link:Int)))
      (first|exact⟨g0,g1,g2,g3,g4⟩|assumption|go_keep|exact HKK2.out _ _ (by assumption) (by assumption)|exact HKS2.out _ _ _ (by assumption) (by assumption))
      (first|(go_at_call 147;refine HM.out.mono ?_;rintro e w2 ⟨v,rfl,p1,p2,p3⟩;obtain⟨fv,fb,fc,e3⟩:=SRep.form p3;subst e3;have z25:=p1.engF 25;obtain⟨vo,y25⟩:∃ vo,w2.cell? ⟨A2.be,25,none⟩=some vo:=⟨_,p1.eng 25 rfl⟩;rw[HF5.out.2.1] at z25 y25;have q5:=HG5.out.trans p2;have HP:=zH p3;have HPG:=zH p2;clear p2 p3))
     go_wp2_with fail
     go_ret
     obtain⟨k1,k2,k3⟩:=HF5.out
     obtain⟨A',a1,a2,a3,a4,a5⟩:=p1.sweepPut _ _ HP.out
     rw[k2] at a3 a4 a5
     rw[hkk]
     exact⟨rfl,A',k1.trans a1,a3,q5.trans a4,a5,fun _=>CRow.keep (A:=A2) (σ:={σp with cut:=σ.cut++[(link,σ.seq)],cuts:=σ.cuts+1}) (w:=w5) k3 a2 rfl (((Grow.drew A2.L w5).trans HPG.out).trans a4)⟩
   )
 · have f1:((ahead:Int)=0)=False:=by have:=hah.lo;simp;rintro rfl;omega
   have f2:((ahead:Int)==0)=false:=by have:=hah.lo;simp;rintro rfl;omega
   have f3:((ahead:Int) !=0)=true:=by have:=hah.lo;simp;rintro rfl;omega
   have f4:(ahead=0)=False:=by have:=hah.lo;simp;rintro rfl;omega
   have f5:ahead≠0:=by rw[ne_eq,f4];exact not_false
   have HS:=zH (slot_at ahead 2 2 rfl hah.lo (by have:=hah.hi;omega) hah.u (by omega));have HST:Hid (∀ w',Rep A σ w'→Calls Tryz.prog 50 #[.pointer (some ⟨A.ba,0,none⟩),zi ((wslot ahead 2:Nat):Int),zu (nx:Int)] w' (Did A w' (σ.put (wslot ahead 2) nx) (.tuple #[]))):=fun w' r=>store_any r (wslot ahead 2) nx (wslot_lt r hah.lo hah.hi (by omega)) hcnt
   have HRES:σ.sweepRun (.cut key ahead link nx)=({σ.put (wslot ahead 2) nx with cut:=σ.cut++[(link,σ.seq)],cuts:=σ.cuts+1,sw:=visitS key ahead nx},true):=by simp only[St.sweepRun];rw[if_pos f5]
   rw[HRES];obtain⟨σp,hσp⟩:∃ σp,σp=σ.put (wslot ahead 2) nx:=⟨_,rfl⟩
   have HSP:Hid (σp.cut=σ.cut∧σp.seq=σ.seq∧σp.cuts=σ.cuts):=by rw[hσp];exact⟨rfl,rfl,rfl⟩
   have HCK:Hid (CutOk A σp.cut∧σp.cut.length<1000000):=by rw[HSP.out.1];exact⟨hck,hln⟩
   rw[←hσp] at HST ⊢;clear hR hcnt B0 B1 B2 B3 B4 hsl HRES hah hσp hck hln f5;generalize ((wslot ahead 2:Nat):Int)=ix at*;go_enter Tryz.func212,Tryz.ntmps212;go_wp2_with fail
   go_region_held3 (fun w'=>w'.cell? ⟨b0,0,none⟩=some (zu (ahead:Int))∧w'.cell? ⟨b1,0,none⟩=some (.pointer (some ⟨A.be,0,none⟩))∧w'.cell? ⟨b2,0,none⟩=some (zu (nx:Int))∧w'.cell? ⟨b3,0,none⟩=some (zi (key:Int))∧w'.cell? ⟨b4,0,none⟩=some (zu (link:Int))∧w'.cell? ⟨A.be,2,none⟩=some (.pointer (some ⟨A.ba,0,none⟩)))
    (first|exact⟨c0,c1,c2,c3,c4,e2⟩|assumption|go_keep|exact HKK.out _ _ (by assumption) (by assumption))
    (first|(go_at_call 37;refine (HS.out _).mono ?_;rintro e w9 ⟨rfl,rfl⟩)|(go_at_call 50;refine (HST.out _ HRd.out).mono ?_;rintro e w1 ⟨rfl,q1,q2⟩;have q4:=HG.out.trans q2;clear q2))
   obtain⟨d0,d1,d2,d3,d4,d5⟩:=HKK.out _ _ q1 q4;have y27:w1.cell? ⟨A.be,27,none⟩=some (.slice av0 n0 c0'):=(q1.eng 27 rfl).trans (congrArg some hvc);have z27:=q1.engF 27;have y22:w1.cell? ⟨A.be,22,none⟩=some (zi (σ.seq:Int)):=(q1.eng 22 rfl).trans (by rw[HSP.out.2.1]);have HQ:=zH (zA q1 q4);clear q1 q4;go_wp2_with fail;refine wp_region_held_drew (S:=fun w'=>w'.cell? ⟨b1,0,none⟩=some (.pointer (some ⟨A.be,0,none⟩))∧w'.cell? ⟨b4,0,none⟩=some (zu (link:Int))∧w'.cell? ⟨A.be,22,none⟩=some (zi (σ.seq:Int))) (by kernel_rfl) ?_ (fun hHeld=>?_)
   · (try dsimp only);exact⟨d1,d4,y22⟩
   have HQD:=zH (zA HQ.out.1.drew (HQ.out.2.trans (Grow.drew A.L w1)));have y27d:w1.drew.cell? ⟨A.be,27,none⟩=some (.slice av0 n0 c0'):=y27;have z27d:w1.drew.frozen? ⟨A.be,27,none⟩=false:=z27;clear d0 d1 d2 d3 d4 d5 y22 y27 z27 HQ;generalize w1.drew=vd at*;have y27a:∀ ob,(vd.alloc ob).cell? ⟨A.be,27,none⟩=some (.slice av0 n0 c0'):=fun ob=>cell_alloc_keep' y27d
   refine zqt (i:=0) rfl hHeld ?_
   (try simp only[zqa,zqb,zqc,Act.put,zqd,zqe,zqf])
   refine zqt (i:=1) rfl hHeld ?_
   (try simp only[zqa,zqb,zqc,Act.put,zqd,zqe,zqf])
   refine zqt (i:=2) rfl hHeld ?_
   (try simp only[zqa,zqb,zqc,Act.put,zqd,zqe,zqf])
   refine zqt (i:=3) rfl hHeld ?_
   (try simp only[zqa,zqb,zqc,Act.put,zqd,zqe,zqf])
   refine zqt (i:=4) rfl hHeld ?_
   (try simp only[zqa,zqb,zqc,Act.put,zqd,zqe,zqf])
   refine zqt (i:=6) rfl hHeld ?_
   (try simp only[zqa,zqb,zqc,Act.put,zqd,zqe,zqf])
   refine zqt (i:=7) rfl hHeld ?_
   (try simp only[zqa,zqb,zqc,Act.put,zqd,zqe,zqf])
   refine zqt (i:=8) rfl hHeld ?_
   (try simp only[zqa,zqb,zqc,Act.put,zqd,zqe,zqf])
   refine zqt (i:=9) rfl hHeld ?_
   (try simp only[zqa,zqb,zqc,Act.put,zqd,zqe,zqf])
   refine zqt (i:=10) rfl hHeld ?_
   (try simp only[zqa,zqb,zqc,Act.put,zqd,zqe,zqf])
   refine zqt (i:=11) rfl hHeld ?_
   (try simp only[zqa,zqb,zqc,Act.put,zqd,zqe,zqf])
   refine wpAnyH_ready (rs:=[5,12]) (by kernel_rfl) (by simp) ?_;refine AllReadyH.cons (o:=_) rfl (fun K hK=>?_) (AllReadyH.cons (o:=_) rfl (fun K hK=>?_) AllReadyH.nil)
   focus (
    go_simp
    refine hK.out _ _ ?_ (fun hHeld=>?_)
    · (try dsimp only);exact hHeld
    clear hK K
    (try simp only[zqa,zqb,zqc,Act.put,zqd,zqe,zqf])
    refine wpAnyH_ready (rs:=[12]) (by kernel_rfl) (by simp) ?_
    refine AllReadyH.cons (o:=_) rfl (fun K hK=>?_) AllReadyH.nil
    go_simp
    refine hK.out _ _ ?_ (fun hHeld=>?_)
    · (try dsimp only);exact⟨cell_alloc_keep' hHeld.1,cell_alloc_keep' hHeld.2.1,cell_alloc_keep' hHeld.2.2⟩
    clear hK K
    (try simp only[zqa,zqb,zqc,Act.put,zqd,zqe,zqf])
   )
   rotate_left
   focus (
    go_simp
    refine hK.out _ _ ?_ (fun hHeld=>?_)
    · (try dsimp only);exact⟨cell_alloc_keep' hHeld.1,cell_alloc_keep' hHeld.2.1,cell_alloc_keep' hHeld.2.2⟩
    clear hK K
    (try simp only[zqa,zqb,zqc,Act.put,zqd,zqe,zqf])
    refine wpAnyH_ready (rs:=[5]) (by kernel_rfl) (by simp) ?_
    refine AllReadyH.cons (o:=_) rfl (fun K hK=>?_) AllReadyH.nil
    go_simp
    refine hK.out _ _ ?_ (fun hHeld=>?_)
    · (try dsimp only);exact hHeld
    clear hK K
    (try simp only[zqa,zqb,zqc,Act.put,zqd,zqe,zqf])
   )
   rotate_left
   all_goals (
    refine wpAnyH_ready (rs:=[13]) (by kernel_rfl) (by simp) ?_
    refine AllReadyH.cons (o:=_) rfl (fun K hK=>?_) AllReadyH.nil
    rw[if_pos (by rfl)]
    refine wp_cutN vd (vd.alloc (.cells #[zu (link:Int),zi (σ.seq:Int)] 187)) (.tmp 38) (.tmp 45) rfl HQD.out.1 HCK.out.1 HCK.out.2 (.slice av0 n0 c0') hvc.symm rfl (link,σ.seq) rfl rfl ?_;intro avl nl capl wl hon;obtain⟨L2,hc2,g2',cs2,av2,cap2,eon,rl,gl,ckl⟩:=hon;have y27l:wl.cell? ⟨A.be,27,none⟩=some (.slice av0 n0 c0'):=(rl.eng 27 rfl).trans (congrArg some hvc);have z27l:wl.frozen? ⟨A.be,27,none⟩=false:=rl.engF 27;have t1:=(HK3.out _ _ (HQD.out.2.trans gl)).2.1;have t4:=(HK3.out _ _ (HQD.out.2.trans gl)).2.2.2.2;have t22:wl.cell? ⟨A.be,22,none⟩=some (zi (σ.seq:Int)):=(rl.eng 22 rfl).trans (by rw[HSP.out.2.1]);have HQL:=zH (zA rl (zA (HQD.out.2.trans gl) (by rw[HSP.out.1] at ckl;exact ckl)));clear eon gl ckl;have HST5:Hid ((wl.setCell ⟨A.be,27,none⟩ (.slice avl nl capl)).cell? ⟨b1,0,none⟩=some (.pointer (some ⟨A.be,0,none⟩))∧(wl.setCell ⟨A.be,27,none⟩ (.slice avl nl capl)).cell? ⟨b4,0,none⟩=some (zu (link:Int))∧(wl.setCell ⟨A.be,27,none⟩ (.slice avl nl capl)).cell? ⟨A.be,22,none⟩=some (zi (σ.seq:Int))):=⟨(HK3.out _ _ (HQL.out.2.1.trans (rl.cutSet (.slice avl nl capl) [] 0).2)).2.1,(HK3.out _ _ (HQL.out.2.1.trans (rl.cutSet (.slice avl nl capl) [] 0).2)).2.2.2.2,by rw[World.cell?_setCell_other _ _ _ _ (by simp)];exact t22⟩;clear rl
    refine hK.out _ _ ?_ (fun hHeld=>?_)
    · (try dsimp only);exact⟨t1,t4,t22⟩
    clear hK K
    (try simp only[zqa,zqb,zqc,Act.put,zqd,zqe,zqf])
    refine zqt (i:=14) rfl hHeld ?_
    (try simp only[zqa,zqb,zqc,Act.put,zqd,zqe,zqf])
    refine zqt (i:=15) rfl hHeld ?_
    (try simp only[zqa,zqb,zqc,Act.put,zqd,zqe,zqf])
    refine zqt (i:=16) rfl hHeld ?_
    (try simp only[zqa,zqb,zqc,Act.put,zqd,zqe,zqf])
    refine wpAnyH_ready (rs:=[17]) (by kernel_rfl) (by simp) ?_
    refine AllReadyH.cons (o:=_) rfl (fun K hK=>?_) AllReadyH.nil
    go_simp
    refine hK.out _ _ ?_ (fun hHeld=>?_)
    · (try dsimp only);exact HST5.out
    clear hK K
    (try simp only[zqa,zqb,zqc,Act.put,zqd,zqe,zqf])
    refine wpAnyH_done (by kernel_rfl) ?_ _
   )
   all_goals (
    clear t1 t4 t22 hHeld y27d z27d y27a
    obtain⟨hon1,hon2,hon3⟩:=HQL.out
    obtain⟨r5,g5⟩:=hon1.cutSet (.slice avl nl capl) (σ.cut++[(link,σ.seq)]) (σ.cuts+1)
    obtain⟨A2,hA2⟩:∃ A2:Book,A2={A with L:=L2,hcut:=hc2,gcut:=g2',cutCs:=cs2,vcut:=.slice avl nl capl}:=⟨_,rfl⟩
    have e2be:A2.be=A.be:=by rw[hA2]
    have e2L:A2.L=L2:=by rw[hA2]
    have hso:SOnly A A2:=by rw[hA2];exact⟨⟨_,_,_,_,_,_,_,_,rfl⟩,rfl⟩
    have hck:CutOk A2 (σ.cut++[(link,σ.seq)]):=by rw[hA2];exact hon3
    replace r5:Rep A2 {σp with cut:=σ.cut++[(link,σ.seq)],cuts:=σ.cuts+1} (wl.setCell ⟨A.be,27,none⟩ (.slice avl nl capl)):=by rw[hA2];exact r5
    generalize hw5:wl.setCell ⟨A.be,27,none⟩ (.slice avl nl capl)=w5 at*
    have hg5:Grow A.L w A2.L w5:=by rw[e2L];exact hon2.trans g5
    have HF5:=zH (zA hso (zA e2be hck))
    have hM:=svisit_any r5.drew key ahead nx hk
    rw[e2be] at hM
    have HM:=zH hM
    clear hM hk hA2 hso hck hon1 hon2 hon3 g5 HQL y27l z27l
    have HKK2:Hid (∀ σ' w',Rep A2 σ' w'→Grow A.L w A2.L w'→w'.cell? ⟨b0,0,none⟩=some (zu (ahead:Int))∧w'.cell? ⟨b1,0,none⟩=some (.pointer (some ⟨A.be,0,none⟩))∧w'.cell? ⟨b2,0,none⟩=some (zu (nx:Int))∧w'.cell? ⟨b3,0,none⟩=some (zi (key:Int))∧w'.cell? ⟨b4,0,none⟩=some (zu (link:Int))):=fun σ' w' r g=>HK3.out _ w' g
    have HKS2:Hid (∀ σ' w' x,Rep A2 σ' w'→Grow A.L w A2.L w'→(w'.setCell ⟨A.be,25,none⟩ x).cell? ⟨b0,0,none⟩=some (zu (ahead:Int))∧(w'.setCell ⟨A.be,25,none⟩ x).cell? ⟨b1,0,none⟩=some (.pointer (some ⟨A.be,0,none⟩))∧(w'.setCell ⟨A.be,25,none⟩ x).cell? ⟨b2,0,none⟩=some (zu (nx:Int))∧(w'.setCell ⟨A.be,25,none⟩ x).cell? ⟨b3,0,none⟩=some (zi (key:Int))∧(w'.setCell ⟨A.be,25,none⟩ x).cell? ⟨b4,0,none⟩=some (zu (link:Int))):=fun σ' w' x r g=>by
     have h:=(r.sweepSet x .now).2
     rw[e2be] at h
     exact HK3.out _ _ (g.trans h)
    obtain⟨g0,g1,g2,g3,g4⟩:=HKK2.out _ _ r5 hg5
    have HG5:=zH (hg5.trans (Grow.drew A2.L w5))
    clear hg5 r5
    cases hkk:visitS key ahead nx with
    |none=>
     rw[hkk] at HM
     go_wp2_with fail
     go_region_held3 (fun w'=>w'.cell? ⟨b0,0,none⟩=some (zu (ahead:Int))∧w'.cell? ⟨b1,0,none⟩=some (.pointer (some ⟨A.be,0,none⟩))∧w'.cell? ⟨b2,0,none⟩=some (zu (nx:Int))∧w'.cell? ⟨b3,0,none⟩=some (zi (key:Int))∧w'.cell? ⟨b4,0,none⟩=some (zu (link:Int)))
      (first|exact⟨g0,g1,g2,g3,g4⟩|assumption|go_keep|exact HKK2.out _ _ (by assumption) (by assumption)|exact HKS2.out _ _ _ (by assumption) (by assumption))
      (first|(go_at_call 147;refine HM.out.mono ?_;rintro e w2 ⟨v,rfl,p1,p2,p3⟩;have e3:v=.nilFunc:=p3;subst e3;have z25:=p1.engF 25;obtain⟨vo,y25⟩:∃ vo,w2.cell? ⟨A2.be,25,none⟩=some vo:=⟨_,p1.eng 25 rfl⟩;rw[HF5.out.2.1] at z25 y25;have q5:=HG5.out.trans p2;have HP:=zH p3;have HPG:=zH p2;clear p2 p3))
     go_wp2_with fail
     go_ret
     obtain⟨k1,k2,k3⟩:=HF5.out
     obtain⟨A',a1,a2,a3,a4,a5⟩:=p1.sweepPut _ _ HP.out
     rw[k2] at a3 a4 a5
     rw[hkk]
     exact⟨rfl,A',k1.trans a1,a3,q5.trans a4,a5,fun _=>CRow.keep (A:=A2) (σ:={σp with cut:=σ.cut++[(link,σ.seq)],cuts:=σ.cuts+1}) (w:=w5) k3 a2 rfl (((Grow.drew A2.L w5).trans HPG.out).trans a4)⟩
    |some kx=>
     rw[hkk] at HM
     go_wp2_with fail
     go_region_held3 (fun w'=>w'.cell? ⟨b0,0,none⟩=some (zu (ahead:Int))∧w'.cell? ⟨b1,0,none⟩=some (.pointer (some ⟨A.be,0,none⟩))∧w'.cell? ⟨b2,0,none⟩=some (zu (nx:Int))∧w'.cell? ⟨b3,0,none⟩=some (zi (key:Int))∧w'.cell? ⟨b4,0,none⟩=some (zu (link:Int)))
      (first|exact⟨g0,g1,g2,g3,g4⟩|assumption|go_keep|exact HKK2.out _ _ (by assumption) (by assumption)|exact HKS2.out _ _ _ (by assumption) (by assumption))
      (first|(go_at_call 147;refine HM.out.mono ?_;rintro e w2 ⟨v,rfl,p1,p2,p3⟩;obtain⟨fv,fb,fc,e3⟩:=SRep.form p3;subst e3;have z25:=p1.engF 25;obtain⟨vo,y25⟩:∃ vo,w2.cell? ⟨A2.be,25,none⟩=some vo:=⟨_,p1.eng 25 rfl⟩;rw[HF5.out.2.1] at z25 y25;have q5:=HG5.out.trans p2;have HP:=zH p3;have HPG:=zH p2;clear p2 p3))
     go_wp2_with fail
     go_ret
     obtain⟨k1,k2,k3⟩:=HF5.out
     obtain⟨A',a1,a2,a3,a4,a5⟩:=p1.sweepPut _ _ HP.out
     rw[k2] at a3 a4 a5
     rw[hkk]
     exact⟨rfl,A',k1.trans a1,a3,q5.trans a4,a5,fun _=>CRow.keep (A:=A2) (σ:={σp with cut:=σ.cut++[(link,σ.seq)],cuts:=σ.cuts+1}) (w:=w5) k3 a2 rfl (((Grow.drew A2.L w5).trans HPG.out).trans a4)⟩
   )
theorem k_smaker_y (hR:Rep A σ w) (key ahead link id:Nat) (hid:id≤65535) (hpl:σ.place id<σ.words.length) (hw:σ.word (σ.place id)<18446744073709551616) (h4:(stateOf (σ.word (σ.place id))=4)=True) (hcnt:σ.count<4000000000000000000) (b0:Nat) (b1:Nat) (b2:Nat) (b3:Nat) (b4:Nat) (B0:Box A.L w b0 (.pointer (some ⟨A.be,0,none⟩))) (B1:Box A.L w b1 (zi (id:Int))) (B2:Box A.L w b2 (zi (key:Int))) (B3:Box A.L w b3 (zu (ahead:Int))) (B4:Box A.L w b4 (zu (link:Int))):
 Calls Tryz.prog 185 #[.pointer (some ⟨b0,0,none⟩),.pointer (some ⟨b1,0,none⟩),.pointer (some ⟨b2,0,none⟩),.pointer (some ⟨b3,0,none⟩),.pointer (some ⟨b4,0,none⟩)] w (SRan A σ w (σ.sweepRun (.maker key ahead link id))):=by
 have c0:=B0.cell;have c1:=B1.cell;have c2:=B2.cell;have c3:=B3.cell;have c4:=B4.cell;have e2:=hR.z2;have HPL:=zH (place_still hR.drew id hid);have HU:=zH (fun w'=>unpack_any (σ.word (σ.place id)) hw w');have HL:Hid (∀ w',Rep A σ w'→Calls Tryz.prog 45 #[.pointer (some ⟨A.ba,0,none⟩),zi (((σ.place id:Nat):Int))] w' (Did A w' σ.tick (zu (σ.word (σ.place id):Int)))):=fun w' r=>load_i r (σ.place id) (((σ.place id:Nat):Int)) rfl hpl hcnt
 have HRd:Hid (Rep A σ w.drew):=hR.drew;have HKK:Hid (∀ w',Rep A σ.tick w'→Grow A.L w A.L w'→w'.cell? ⟨b0,0,none⟩=some (.pointer (some ⟨A.be,0,none⟩))∧w'.cell? ⟨b1,0,none⟩=some (zi (id:Int))∧w'.cell? ⟨b2,0,none⟩=some (zi (key:Int))∧w'.cell? ⟨b3,0,none⟩=some (zu (ahead:Int))∧w'.cell? ⟨b4,0,none⟩=some (zu (link:Int))∧w'.cell? ⟨A.be,2,none⟩=some (.pointer (some ⟨A.ba,0,none⟩))):=fun w' r g=>⟨(B0.grow g).cell,(B1.grow g).cell,(B2.grow g).cell,(B3.grow g).cell,(B4.grow g).cell,r.eng 2 rfl⟩
 have HKS:Hid (∀ w' x,Rep A σ.tick w'→Grow A.L w A.L w'→(w'.setCell ⟨A.be,25,none⟩ x).cell? ⟨b0,0,none⟩=some (.pointer (some ⟨A.be,0,none⟩))∧(w'.setCell ⟨A.be,25,none⟩ x).cell? ⟨b1,0,none⟩=some (zi (id:Int))∧(w'.setCell ⟨A.be,25,none⟩ x).cell? ⟨b2,0,none⟩=some (zi (key:Int))∧(w'.setCell ⟨A.be,25,none⟩ x).cell? ⟨b3,0,none⟩=some (zu (ahead:Int))∧(w'.setCell ⟨A.be,25,none⟩ x).cell? ⟨b4,0,none⟩=some (zu (link:Int))∧(w'.setCell ⟨A.be,25,none⟩ x).cell? ⟨A.be,2,none⟩=some (.pointer (some ⟨A.ba,0,none⟩))):=fun w' x r g=>let ⟨r',g'⟩:=r.sweepSet x .now;⟨(B0.grow (g.trans g')).cell,(B1.grow (g.trans g')).cell,(B2.grow (g.trans g')).cell,(B3.grow (g.trans g')).cell,(B4.grow (g.trans g')).cell,r'.eng 2 rfl⟩
 have HM:Hid (∀ w',Rep A σ.tick w'→Calls Tryz.prog 186 #[.pointer (some ⟨A.be,0,none⟩),zi (key:Int),zu (ahead:Int),zu (link:Int)] w' (STells A σ.tick w' (some (.unlink key ahead link)))):=fun w' r=>sunlink_any r key ahead link
 have HG:=zG A.L w;clear hR hcnt B0 B1 B2 B3 B4;have HRES:σ.sweepRun (.maker key ahead link id)=({σ.tick with sw:=some (.unlink key ahead link)},false):=by simp only[St.sweepRun,h4];rfl
 rw[HRES];have f1:((stateOf (σ.word (σ.place id)):Int)=4)=True:=by have:=h4;simp at this ⊢;omega
 have f2:((stateOf (σ.word (σ.place id)):Int)==4)=true:=by have:=h4;simp at this ⊢;omega
 clear hid hpl hw h4;generalize (stateOf (σ.word (σ.place id)):Int)=zs at*;generalize (endOf (σ.word (σ.place id)):Int)=ze at*;generalize (σ.word (σ.place id):Int)=hd at*;generalize ((σ.place id:Nat):Int)=ix at*;go_enter Tryz.func185,Tryz.ntmps185;go_wp2_with fail
 go_region_held3 (fun w'=>w'.cell? ⟨b0,0,none⟩=some (.pointer (some ⟨A.be,0,none⟩))∧w'.cell? ⟨b1,0,none⟩=some (zi (id:Int))∧w'.cell? ⟨b2,0,none⟩=some (zi (key:Int))∧w'.cell? ⟨b3,0,none⟩=some (zu (ahead:Int))∧w'.cell? ⟨b4,0,none⟩=some (zu (link:Int))∧w'.cell? ⟨A.be,2,none⟩=some (.pointer (some ⟨A.ba,0,none⟩)))
  (first|exact⟨c0,c1,c2,c3,c4,e2⟩|assumption|go_keep|exact HKK.out _ (by assumption) (by assumption))
  (first|(go_at_call 51;refine HPL.out.mono ?_;rintro e w9 ⟨rfl,rfl⟩)|(go_at_call 45;refine (HL.out _ HRd.out).mono ?_;rintro e w1 ⟨rfl,q1,q2⟩;have q4:=HG.out.trans q2)|(go_at_call 70;refine (HU.out _).mono ?_;rintro e w9 ⟨rfl,rfl⟩))
 obtain⟨d0,d1,d2,d3,d4,d9⟩:=HKK.out _ q1 q4;have HQ1:=zH q1.drew;have HG1:=zH (q4.trans (Grow.drew _ _));go_wp2_with fail
 go_region_held3 (fun w'=>w'.cell? ⟨b0,0,none⟩=some (.pointer (some ⟨A.be,0,none⟩))∧w'.cell? ⟨b1,0,none⟩=some (zi (id:Int))∧w'.cell? ⟨b2,0,none⟩=some (zi (key:Int))∧w'.cell? ⟨b3,0,none⟩=some (zu (ahead:Int))∧w'.cell? ⟨b4,0,none⟩=some (zu (link:Int))∧w'.cell? ⟨A.be,2,none⟩=some (.pointer (some ⟨A.ba,0,none⟩)))
  (first|exact⟨d0,d1,d2,d3,d4,d9⟩|assumption|go_keep|exact HKK.out _ (by assumption) (by assumption)|exact HKS.out _ _ (by assumption) (by assumption))
  (first|(go_at_call 186;refine (HM.out _ HQ1.out).mono ?_;rintro e w2 ⟨v,rfl,p1,p2,p3⟩;obtain⟨fv,fb,fc,e3⟩:=SRep.form p3;subst e3;obtain⟨vo,y25⟩:∃ vo,w2.cell? ⟨A.be,25,none⟩=some vo:=⟨_,p1.eng 25 (v:=A.sv σ.tick.sw) rfl⟩;have z25:=p1.engF 25;have q5:=HG1.out.trans p2;have HP:=zH p3;clear p2 p3))
 go_wp2_with fail;go_ret;obtain⟨A',a1,a2,a3,a4,a5⟩:=p1.sweepPut _ _ HP.out;exact⟨rfl,A',a1,a3,q5.trans a4,a5,fun hc=>hc.keep a2 rfl (q5.trans a4)⟩
theorem k_smaker_n (hR:Rep A σ w) (key ahead link id:Nat) (hid:id≤65535) (hpl:σ.place id<σ.words.length) (hw:σ.word (σ.place id)<18446744073709551616) (h4:(stateOf (σ.word (σ.place id))=4)=False) (hcnt:σ.count<4000000000000000000) (b0:Nat) (b1:Nat) (b2:Nat) (b3:Nat) (b4:Nat) (B0:Box A.L w b0 (.pointer (some ⟨A.be,0,none⟩))) (B1:Box A.L w b1 (zi (id:Int))) (B2:Box A.L w b2 (zi (key:Int))) (B3:Box A.L w b3 (zu (ahead:Int))) (B4:Box A.L w b4 (zu (link:Int))):
 Calls Tryz.prog 185 #[.pointer (some ⟨b0,0,none⟩),.pointer (some ⟨b1,0,none⟩),.pointer (some ⟨b2,0,none⟩),.pointer (some ⟨b3,0,none⟩),.pointer (some ⟨b4,0,none⟩)] w (SRan A σ w (σ.sweepRun (.maker key ahead link id))):=by
 have c0:=B0.cell;have c1:=B1.cell;have c2:=B2.cell;have c3:=B3.cell;have c4:=B4.cell;have e2:=hR.z2;have HPL:=zH (place_still hR.drew id hid);have HU:=zH (fun w'=>unpack_any (σ.word (σ.place id)) hw w');have HL:Hid (∀ w',Rep A σ w'→Calls Tryz.prog 45 #[.pointer (some ⟨A.ba,0,none⟩),zi (((σ.place id:Nat):Int))] w' (Did A w' σ.tick (zu (σ.word (σ.place id):Int)))):=fun w' r=>load_i r (σ.place id) (((σ.place id:Nat):Int)) rfl hpl hcnt
 have HRd:Hid (Rep A σ w.drew):=hR.drew;have HKK:Hid (∀ w',Rep A σ.tick w'→Grow A.L w A.L w'→w'.cell? ⟨b0,0,none⟩=some (.pointer (some ⟨A.be,0,none⟩))∧w'.cell? ⟨b1,0,none⟩=some (zi (id:Int))∧w'.cell? ⟨b2,0,none⟩=some (zi (key:Int))∧w'.cell? ⟨b3,0,none⟩=some (zu (ahead:Int))∧w'.cell? ⟨b4,0,none⟩=some (zu (link:Int))∧w'.cell? ⟨A.be,2,none⟩=some (.pointer (some ⟨A.ba,0,none⟩))):=fun w' r g=>⟨(B0.grow g).cell,(B1.grow g).cell,(B2.grow g).cell,(B3.grow g).cell,(B4.grow g).cell,r.eng 2 rfl⟩
 have HKS:Hid (∀ w' x,Rep A σ.tick w'→Grow A.L w A.L w'→(w'.setCell ⟨A.be,25,none⟩ x).cell? ⟨b0,0,none⟩=some (.pointer (some ⟨A.be,0,none⟩))∧(w'.setCell ⟨A.be,25,none⟩ x).cell? ⟨b1,0,none⟩=some (zi (id:Int))∧(w'.setCell ⟨A.be,25,none⟩ x).cell? ⟨b2,0,none⟩=some (zi (key:Int))∧(w'.setCell ⟨A.be,25,none⟩ x).cell? ⟨b3,0,none⟩=some (zu (ahead:Int))∧(w'.setCell ⟨A.be,25,none⟩ x).cell? ⟨b4,0,none⟩=some (zu (link:Int))∧(w'.setCell ⟨A.be,25,none⟩ x).cell? ⟨A.be,2,none⟩=some (.pointer (some ⟨A.ba,0,none⟩))):=fun w' x r g=>let ⟨r',g'⟩:=r.sweepSet x .now;⟨(B0.grow (g.trans g')).cell,(B1.grow (g.trans g')).cell,(B2.grow (g.trans g')).cell,(B3.grow (g.trans g')).cell,(B4.grow (g.trans g')).cell,r'.eng 2 rfl⟩
 have HM:Hid (∀ w',Rep A σ.tick w'→Calls Tryz.prog 187 #[.pointer (some ⟨A.be,0,none⟩),zi (key:Int),zu (link:Int)] w' (STells A σ.tick w' (some (.on key link)))):=fun w' r=>son_any r key link
 have HG:=zG A.L w;clear hR hcnt B0 B1 B2 B3 B4;have HRES:σ.sweepRun (.maker key ahead link id)=({σ.tick with sw:=some (.on key link)},false):=by simp only[St.sweepRun,h4];rfl
 rw[HRES];have f1:((stateOf (σ.word (σ.place id)):Int)=4)=False:=by have:=h4;simp at this ⊢;omega
 have f2:((stateOf (σ.word (σ.place id)):Int)==4)=false:=by have:=h4;simp at this ⊢;omega
 clear hid hpl hw h4;generalize (stateOf (σ.word (σ.place id)):Int)=zs at*;generalize (endOf (σ.word (σ.place id)):Int)=ze at*;generalize (σ.word (σ.place id):Int)=hd at*;generalize ((σ.place id:Nat):Int)=ix at*;go_enter Tryz.func185,Tryz.ntmps185;go_wp2_with fail
 go_region_held3 (fun w'=>w'.cell? ⟨b0,0,none⟩=some (.pointer (some ⟨A.be,0,none⟩))∧w'.cell? ⟨b1,0,none⟩=some (zi (id:Int))∧w'.cell? ⟨b2,0,none⟩=some (zi (key:Int))∧w'.cell? ⟨b3,0,none⟩=some (zu (ahead:Int))∧w'.cell? ⟨b4,0,none⟩=some (zu (link:Int))∧w'.cell? ⟨A.be,2,none⟩=some (.pointer (some ⟨A.ba,0,none⟩)))
  (first|exact⟨c0,c1,c2,c3,c4,e2⟩|assumption|go_keep|exact HKK.out _ (by assumption) (by assumption))
  (first|(go_at_call 51;refine HPL.out.mono ?_;rintro e w9 ⟨rfl,rfl⟩)|(go_at_call 45;refine (HL.out _ HRd.out).mono ?_;rintro e w1 ⟨rfl,q1,q2⟩;have q4:=HG.out.trans q2)|(go_at_call 70;refine (HU.out _).mono ?_;rintro e w9 ⟨rfl,rfl⟩))
 obtain⟨d0,d1,d2,d3,d4,d9⟩:=HKK.out _ q1 q4;have HQ1:=zH q1.drew;have HG1:=zH (q4.trans (Grow.drew _ _));go_wp2_with fail
 go_region_held3 (fun w'=>w'.cell? ⟨b0,0,none⟩=some (.pointer (some ⟨A.be,0,none⟩))∧w'.cell? ⟨b1,0,none⟩=some (zi (id:Int))∧w'.cell? ⟨b2,0,none⟩=some (zi (key:Int))∧w'.cell? ⟨b3,0,none⟩=some (zu (ahead:Int))∧w'.cell? ⟨b4,0,none⟩=some (zu (link:Int))∧w'.cell? ⟨A.be,2,none⟩=some (.pointer (some ⟨A.ba,0,none⟩)))
  (first|exact⟨d0,d1,d2,d3,d4,d9⟩|assumption|go_keep|exact HKK.out _ (by assumption) (by assumption)|exact HKS.out _ _ (by assumption) (by assumption))
  (first|(go_at_call 187;refine (HM.out _ HQ1.out).mono ?_;rintro e w2 ⟨v,rfl,p1,p2,p3⟩;obtain⟨fv,fb,fc,e3⟩:=SRep.form p3;subst e3;obtain⟨vo,y25⟩:∃ vo,w2.cell? ⟨A.be,25,none⟩=some vo:=⟨_,p1.eng 25 (v:=A.sv σ.tick.sw) rfl⟩;have z25:=p1.engF 25;have q5:=HG1.out.trans p2;have HP:=zH p3;clear p2 p3))
 go_wp2_with fail;go_ret;obtain⟨A',a1,a2,a3,a4,a5⟩:=p1.sweepPut _ _ HP.out;exact⟨rfl,A',a1,a3,q5.trans a4,a5,fun hc=>hc.keep a2 rfl (q5.trans a4)⟩
theorem give_none (hR:Rep A σ w) (hC:CutOk A σ.cut) (hcut:σ.cut=[]):
 Calls Tryz.prog 59 #[.pointer (some ⟨A.be,0,none⟩)] w fun e w'=>e=.returned (.bool false)∧Below w.heap.size w w':=by
 have y:w.cell? ⟨A.be,27,none⟩=some A.vcut:=hR.eng 27 rfl;obtain⟨a,c,e⟩:∃ a c,A.vcut=.slice a 0 c:=by
  rcases hC with ⟨-,h,-⟩|⟨-,k,cap,h,-⟩
  · exact⟨_,_,h⟩
  · rw[hcut] at h;exact⟨_,_,h⟩
 rw[e] at y;clear hR hcut e hC;go_enter Tryz.func59,Tryz.ntmps59;go_wp2;go_ret;exact⟨rfl,Below.refl _ _⟩
theorem calls_index (v:Nat→Value) (k:Nat) (hk:k<8) (w:World):(Instr.index 89 (.agg #[v 0,v 1,v 2,v 3,v 4,v 5,v 6,v 7]) (zi (k:Int))).run Tryz.prog w=.ok (v k) w:=by
 have h:k=0∨k=1∨k=2∨k=3∨k=4∨k=5∨k=6∨k=7:=by omega
 rcases h with rfl|rfl|rfl|rfl|rfl|rfl|rfl|rfl<;>rfl
def behind (seq:Nat) (c:Option Cal):Bool:=match c with|some c=>decide (seq<c.seq)|none=>true
def GaveS (A:Book) (σ:St) (w:World) (link seq:Nat) (rest:List (Nat×Nat)):Ending→World→Prop:=fun e w'=>
 (∃ q,q<8∧behind seq (σ.calls.getD q none)=false∧e=.returned (.bool false)∧Below w.heap.size w w')∨
 ((∀ q,q<8→behind seq (σ.calls.getD q none)=true)∧e=.returned (.bool true)∧∃ A',SOnly A A'∧A'.vsweep=A.vsweep∧Rep A' {σ.give link with cut:=rest} w'∧Grow A.L w A'.L w'∧CutOk A' rest)
theorem give_some (hL:Live A σ w) (link seq:Nat) (rest:List (Nat×Nat)) (hv:VL σ link) (hp:PoolOk σ) (hcut:σ.cut=(link,seq)::rest) (hln:σ.cut.length<1000000):
 Calls Tryz.prog 59 #[.pointer (some ⟨A.be,0,none⟩)] w (GaveS A σ w link seq rest):=by
 have hR:=hL.rep;have hck:=hL.sx.cu;rw[hcut] at hck;obtain⟨kk,c,hh,hvc,hn1,hcm,hkl,hct,hc0,hc1⟩:=hck.tail;have he:memOf A σ .cut=.obj A.gcut A.cutCs 187:=by simp only[memOf,hh,cond_true]
 have ylk:w.cell? ⟨A.gcut,2*kk,none⟩=some (zu (link:Int)):=hR.mem.cell he (2*kk) hc0;have ysq:w.cell? ⟨A.gcut,2*kk+1,none⟩=some (zi (seq:Int)):=hR.mem.cell he (2*kk+1) hc1;obtain⟨nr,hnr⟩:∃ nr,nr=rest.length+1:=⟨_,rfl⟩
 rw[←hnr] at hvc hn1;have y27:w.cell? ⟨A.be,27,none⟩=some (.slice (some ⟨A.gcut,2*kk,none⟩) nr c):=(hR.eng 27 rfl).trans (congrArg some hvc);have y3:w.cell? ⟨A.be,3,none⟩=some (.pointer (some ⟨A.bp,0,none⟩)):=hR.eng 3 rfl;obtain⟨vc,hvcc⟩:∃ vc:Nat→Value,vc=A.vcall:=⟨_,rfl⟩
 have z0:w.cell? ⟨A.be,13,none⟩=some (vc 0):=(hR.eng 13 (v:=A.vcall 0) rfl).trans (by rw[hvcc]);have z1:w.cell? ⟨A.be,14,none⟩=some (vc 1):=(hR.eng 14 (v:=A.vcall 1) rfl).trans (by rw[hvcc]);have z2:w.cell? ⟨A.be,15,none⟩=some (vc 2):=(hR.eng 15 (v:=A.vcall 2) rfl).trans (by rw[hvcc]);have z3:w.cell? ⟨A.be,16,none⟩=some (vc 3):=(hR.eng 16 (v:=A.vcall 3) rfl).trans (by rw[hvcc]);have z4:w.cell? ⟨A.be,17,none⟩=some (vc 4):=(hR.eng 17 (v:=A.vcall 4) rfl).trans (by rw[hvcc]);have z5:w.cell? ⟨A.be,18,none⟩=some (vc 5):=(hR.eng 18 (v:=A.vcall 5) rfl).trans (by rw[hvcc]);have z6:w.cell? ⟨A.be,19,none⟩=some (vc 6):=(hR.eng 19 (v:=A.vcall 6) rfl).trans (by rw[hvcc]);have z7:w.cell? ⟨A.be,20,none⟩=some (vc 7):=(hR.eng 20 (v:=A.vcall 7) rfl).trans (by rw[hvcc]);have hnr1:((nr:Int)==0)=false:=by simp;omega
 have hnr2:((nr:Int)=0)=False:=by simp;omega
 have hnr3:(nr=0)=False:=by simp;omega
 have hnr4:((0:Int)<(nr:Int))=True:=by simp;omega
 have hnr5:(0<nr)=True:=by simp;omega
 have HNR:=zH (zA hnr hn1);have HX:=zH (zA hL (zA hv (zA hp (zA hvcc hct))));have HCL:Hid (∀ k,k<8→∀ w1,Below w.heap.size w w1→vc k=.pointer none∧behind seq (σ.calls.getD k none)=true∨∃ (b cq:Nat),vc k=.pointer (some ⟨b,0,none⟩)∧w1.cell? ⟨b,12,none⟩=some (zi (cq:Int))∧behind seq (σ.calls.getD k none)=decide (seq<cq)):=fun k hk w1 hb=>by
  rw[hvcc]
  cases hcc:σ.calls.getD k none with
  |none=>exact .inl ⟨hL.idle k hk hcc,rfl⟩
  |some cc=>
   refine .inr ⟨A.bc k,cc.seq,(hL.call k hk cc hcc).1,?_,rfl⟩;exact (hR.below hb).call hcc 12 rfl
 have HCE:Hid (∀ w1,Below w.heap.size w w1→w1.cell? ⟨A.be,3,none⟩=some (.pointer (some ⟨A.bp,0,none⟩))∧w1.cell? ⟨A.be,27,none⟩=some (.slice (some ⟨A.gcut,2*kk,none⟩) nr c)∧w1.cell? ⟨A.gcut,2*kk,none⟩=some (zu (link:Int))∧w1.cell? ⟨A.gcut,2*kk+1,none⟩=some (zi (seq:Int))):=fun w1 hb=>by
  have r:=hR.below hb;exact⟨r.eng 3 rfl,(r.eng 27 rfl).trans (congrArg some hvc),r.mem.cell he (2*kk) hc0,r.mem.cell he (2*kk+1) hc1⟩
 have HSV:Hid (∀ A' w2,FreeOnly A A'→Rep A' (σ.give link) w2→w2.cell? ⟨A.be,3,none⟩=some (.pointer (some ⟨A.bp,0,none⟩))∧w2.cell? ⟨A.be,27,none⟩=some (.slice (some ⟨A.gcut,2*kk,none⟩) nr c)∧w2.cell? ⟨A.gcut,2*kk,none⟩=some (zu (link:Int))∧w2.cell? ⟨A.gcut,2*kk+1,none⟩=some (zi (seq:Int))):=fun A' w2 hfo r=>by
  obtain⟨L,v,rfl⟩:=hfo;exact⟨r.eng 3 rfl,(r.eng 27 rfl).trans (congrArg some hvc),r.mem.cell (r:=.cut) (b:=A.gcut) (cs:=A.cutCs) (by simp only[memOf,hh,cond_true];rfl) (2*kk) hc0,r.mem.cell (r:=.cut) (b:=A.gcut) (cs:=A.cutCs) (by simp only[memOf,hh,cond_true];rfl) (2*kk+1) hc1⟩
 clear hR hv hp hL hck hct hc0 hc1 hh he hkl hcut hln hvc hvcc hnr hn1;go_enter Tryz.func59,Tryz.ntmps59;go_wp2_with fail
 go_loopw [19] (fun i wr=>∃ k:Nat,k≤8∧i=zi (k:Int)∧Below w.heap.size w wr∧∀ q,q<k→behind seq (σ.calls.getD q none)=true) (fun i _=>8 - (intOf i).toNat)
 case atStart=>exact⟨0,by omega,rfl,Below.refl _ _,fun q h=>absurd h (by omega)⟩
 case round=>
  obtain⟨k,hk,rfl,hb,hbe⟩:=hrel;have HB:=zH (zA hb hbe);clear hb hbe
  by_cases hlt:k<8
  · have k1:((k:Int)<8)=True:=by simp;omega
    have k2:decide ((k:Int)<8)=true:=by simp;omega
    have k3:IntKind.i64.wrap ((k:Int)+1)=(k:Int)+1:=by rw[IntKind.wrap_i64];omega
    have hix:=calls_index vc k hlt;obtain⟨x3,x27,xlk,xsq⟩:=HCE.out _ HB.out.1
    rcases HCL.out k hlt _ HB.out.1 with ⟨e1,e2⟩|⟨b,cq,e1,e2,e3⟩
    · rw[e1] at hix
      have HK:=zH (zA hlt e2);clear hlt hk e2;go_wp2_with (refine wpList_index rfl (.tmp 18) (.tmp 19) 89 rfl (hix _) ?_)
      go_quiet (fail)
      go_wp2_with fail;exact⟨⟨k+1,by have:=HK.out.1;omega,rfl,HB.out.1.trans ⟨rfl,rfl,rfl,Nat.le_refl _,fun _ _=>rfl⟩,fun q hq=>by by_cases h:q=k;rw[h];exact HK.out.2;exact HB.out.2 q (by omega)⟩,by have:=HK.out.1;simp[intOf];omega⟩
    · rw[e1] at hix
      have HK:=zH (zA hlt e3);clear hlt hk e3
      by_cases hq:seq<cq
      · have q1:((cq:Int)≤(seq:Int))=False:=by simp;omega
        have q2:decide ((cq:Int)≤(seq:Int))=false:=by simp;omega
        have q3:(cq≤seq)=False:=by simp;omega
        have q4:decide (cq≤seq)=false:=by simp;omega
        go_wp2_with (refine wpList_index rfl (.tmp 18) (.tmp 19) 89 rfl (hix _) ?_)
        go_quiet (fail)
        go_wp2_with fail;exact⟨⟨k+1,by have:=HK.out.1;omega,rfl,HB.out.1.trans ⟨rfl,rfl,rfl,Nat.le_refl _,fun _ _=>rfl⟩,fun q hqk=>by by_cases h:q=k;rw[h,HK.out.2];simpa using hq;exact HB.out.2 q (by omega)⟩,by have:=HK.out.1;simp[intOf];omega⟩
      · have q1:((cq:Int)≤(seq:Int))=True:=by simp;omega
        have q2:decide ((cq:Int)≤(seq:Int))=true:=by simp;omega
        have q3:(cq≤seq)=True:=by simp;omega
        have q4:decide (cq≤seq)=true:=by simp;omega
        go_wp2_with (refine wpList_index rfl (.tmp 18) (.tmp 19) 89 rfl (hix _) ?_)
        go_quiet (fail)
        go_wp2_with fail;go_ret;exact .inl ⟨k,HK.out.1,by rw[HK.out.2];simpa using hq,rfl,HB.out.1.trans ⟨rfl,rfl,rfl,Nat.le_refl _,fun _ _=>rfl⟩⟩
  · obtain rfl:k=8:=by omega
    have k1:(((8:Nat):Int)<8)=False:=by simp
    have k2:decide (((8:Nat):Int)<8)=false:=by simp
    obtain⟨x3,x27,xlk,xsq⟩:=HCE.out _ HB.out.1;have hRr:=HX.out.1.rep.below HB.out.1;have HGV:=zH (give_any hRr.drew link HX.out.2.1 HX.out.2.2.1);have HBD:=zH ((HB.out.1).drew);clear hRr hk;go_wp2_with fail
    go_region_held3 (fun w'=>w'.cell? ⟨A.be,3,none⟩=some (.pointer (some ⟨A.bp,0,none⟩))∧w'.cell? ⟨A.be,27,none⟩=some (.slice (some ⟨A.gcut,2*kk,none⟩) nr c)∧w'.cell? ⟨A.gcut,2*kk,none⟩=some (zu (link:Int))∧w'.cell? ⟨A.gcut,2*kk+1,none⟩=some (zi (seq:Int)))
     (first|exact⟨x3,x27,xlk,xsq⟩|assumption|go_keep|exact HSV.out _ _ (by assumption) (by assumption))
     (first|(go_at_call 83;refine HGV.out.mono ?_;rintro e w2 ⟨⟨zz,rfl⟩,A',p0,p1,p2⟩))
    obtain⟨_,y27',_⟩:=HSV.out _ _ p0 p1;have z27:=p1.engF 27;have b1:A'.be=A.be:=by obtain⟨L,v,rfl⟩:=p0;rfl
    have hvs:A'.vsweep=A.vsweep:=by obtain⟨L,v,rfl⟩:=p0;rfl
    have hso:SOnly A A':=by obtain⟨L,v,rfl⟩:=p0;exact⟨⟨_,_,_,_,_,_,_,_,rfl⟩,rfl⟩
    rw[b1] at z27;have hck:CutOk {A' with vcut:=.slice (if c=1 then some ⟨A.gcut,2*kk,none⟩ else some ⟨A.gcut,2*kk+2,none⟩) (nr - 1) (c - 1)} rest:=by
     rw[show nr - 1=rest.length by have:=HNR.out.1;omega];obtain⟨L,v,rfl⟩:=p0;exact HX.out.2.2.2.2
    have h1n:((1:Int)≤(nr:Int))=True:=by have:=HNR.out;simp;omega
    have h1n':(1≤nr)=True:=by have:=HNR.out;simp;omega
    have h1c:((1:Int)≤(c:Int))=True:=by have:=HNR.out;simp;omega
    have hc2:¬ ((c:Int)<1):=by have:=HNR.out;omega
    have HF:=zH (zA p1 (zA ((Grow.below (L:=A.L) HBD.out).trans p2) (zA b1 (zA hso (zA hvs hck)))));clear p0 p1 p2 b1 hso hvs hck;go_wp2_with fail
    all_goals
     go_ret;obtain⟨p1,p2,b1,hso,hvs,hck⟩:=HF.out;rw[←b1];refine .inr ⟨HB.out.2,rfl,_,?_,?_,(p1.cutSet _ rest (σ.give link).cuts).1,p2.trans (p1.cutSet _ rest (σ.give link).cuts).2,?_⟩;rotate_left;exact hvs;rotate_left;exact hso.trans ⟨⟨_,_,_,_,_,_,_,_,rfl⟩,rfl⟩
     by_cases hq:c=1
     · rw[if_pos hq] at hck
       have e0:c - 1=0:=by omega
       rw[e0] at hck
       first|exact hck|exact absurd hq (by assumption)
     · rw[if_neg hq] at hck
       first|exact hck|exact absurd (by assumption) hq
end Go.Proofs.YtmgghljjjpcgkaaGreat.Em
