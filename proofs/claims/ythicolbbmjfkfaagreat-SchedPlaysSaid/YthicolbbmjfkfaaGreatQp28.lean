import Derived.Test.YthicolbbmjfkfaaGreatQp27
import Derived.Deep.CutRange
namespace Go.Proofs.YthicolbbmjfkfaaGreat.Em
open Go.ChangeShapes Go.WideShapes Go.ChangeAt Go.RowKit En
set_option linter.unusedVariables false
set_option linter.unusedSimpArgs false
set_option maxRecDepth 100000
set_option maxHeartbeats 1600000
theorem E2.own {be ce:Nat} {w0 w w':World} {ks:List Kept} {vs:List (Nat×Obj)} {σ τ:St} {T:TypeId} {size n:Nat} {v:Value} {xs:List Value} (h:E2 be ce w0 ks vs σ τ w) (hb:Below w.heap.size w w') (ho:w'.ownsRow w.heap.size T size v n xs):E2 be ce w0 (.row size v xs::ks) vs σ τ w':=by
 obtain⟨A,B,e1,e2,t,g1,g2,k1,k2⟩:=h.ex;have h2:=h.below hb;refine E2.row ⟨A,B,⟨e1,e2,t.below hb,g1.trans (Grow.below hb),g2.trans (Grow.below hb),KN.grow (Grow.below hb) k1,KN.grow (Grow.below hb) k2⟩,?_⟩;obtain⟨a,c,rfl,h1,h2,h3⟩:=Ow.own_form ho;obtain⟨a',n',c',e0,k1,k2,k3,k4⟩:=h3;simp only[Value.slice.injEq] at e0;obtain⟨rfl,rfl,rfl⟩:=e0;refine⟨a,n,c,rfl,k1,h1,by unfold maxLen;omega,?_⟩
 rcases k4 with k4|⟨g',off,e1,e2,e3,e4⟩
 · exact .inl k4
 · exact .inr ⟨g',off,e1,t.a.rep.mem.fresh g' e2,e3,e4⟩
theorem e2_of {B:WBook} {be ce pl:Nat} {w0 w1 w2:World} (q:EKt be w0 [.obj pl (playerO be)] (new 30 200) w1) (q2:WK B ce w1 [] (wNew 30 200) w2):
 ∃ o,E2 be ce w0 [.obj pl (playerO be),.obj B.bw o] [] (new 30 200) (new 30 200) w2∧∀ w:World,w.heap[B.bw]? =some o→w.cell? ⟨B.bw,0,none⟩=some (.pointer (some ⟨ce,0,none⟩)):=by
 have hge:=fun h=>q2.ge (r:=.eng) (b:=B.bw) h
 obtain⟨A,e,l,r,g,t⟩:=q2.ex;have hm:=(r.mem.all .eng)
 refine⟨_,e2_new q ⟨A,e,l,g,r.tie _ _ hm.1,hge hm.1,hm.2⟩ rfl (fun s=>by show (List.replicate 8 none).getD s none=none;rw[List.getD_eq_getElem?_getD,List.getElem?_replicate];split<;>rfl) rfl,fun w h=>?_⟩;rw[cell_of_row w B.bw 0 _ _ _ h,e];rfl
theorem hd_i64 (bs:List Int) (h:∀ i,i<bs.length→0≤bs.getD i 0∧bs.getD i 0<256):Plan.I64 (Plan.hdE bs):=by
 have g:∀ i,0≤bs.getD i 0∧bs.getD i 0<256:=fun i=>by
  by_cases hi:i<bs.length
  · exact h i hi
  · rw[List.getD_eq_getElem?_getD,List.getElem?_eq_none (by omega)];simp
 have g0:=g 0;have g1:=g 1;have g2:=g 2;have g3:=g 3;have g4:=g 4;unfold Plan.hdE;generalize bs.getD 0 0=b0 at*;generalize bs.getD 1 0=b1 at*;generalize bs.getD 2 0=b2 at*;generalize bs.getD 3 0=b3 at*;generalize bs.getD 4 0=b4 at*;have bad:Plan.I64 Plan.badE:=by intro z hz;simp[Plan.badE] at hz;rcases hz with rfl|rfl<;>omega
 split
 · exact bad
 · unfold Plan.enE Plan.isE
   repeat' split
   all_goals first|exact bad|(intro z hz;simp at hz;omega)
theorem dec_i64:∀ (n:Nat) (bs:List Int),(∀ i,i<bs.length→0≤bs.getD i 0∧bs.getD i 0<256)→∀ e∈Plan.dec n bs,Plan.I64 e
 |0,_,_,e,he=>by cases he
 |n+1,bs,h,e,he=>by
  unfold Plan.dec at he
  split at he
  · cases he
  · rcases List.mem_cons.1 he with rfl|he
    · exact hd_i64 bs h
    · refine dec_i64 n (bs.drop 5) (fun i hi=>?_) e he
      rw[List.length_drop] at hi;have:=h (5+i) (by omega);rw[List.getD_eq_getElem?_getD,List.getElem?_drop,←List.getD_eq_getElem?_getD];exact this
theorem row_ent {w:World} {v:Value} {l:List Plan.En} {base:Nat} (h:Ow.Row w base 7 v (Plan.flatE l)):∃ a cap,v=.slice a l.length cap∧∀ i e,l[i]? =some e→∃ g off,a=some ⟨g,off,none⟩∧∀ f u,f<7→(Plan.cellsE e)[f]? =some u→w.cell? ⟨g,off+(i*7+f),none⟩=some u:=by
 obtain⟨a,n,cap,rfl,hn,hc,hm,h5⟩:=h;rw[Plan.flatE_length] at hn;obtain rfl:n=l.length:=by omega
 refine⟨a,cap,rfl,fun i e hi=>?_⟩;have hl:i<l.length:=(List.getElem?_eq_some_iff.1 hi).1
 rcases h5 with h5|⟨g,off,rfl,_,hg,hcell⟩
 · omega
 · refine⟨g,off,rfl,fun f u hf hu=>?_⟩
   have:=Plan.row_cell hcell i hl e f hf;rw[this];have h6:l.getD i e=e:=by rw[List.getD_eq_getElem?_getD,hi];rfl
   rw[h6];exact hu
theorem one_flat (l:List Plan.En):∀ u∈Plan.flatE l,u.oneCell'=true:=by
 intro u hu;obtain⟨e,_,he⟩:=List.mem_flatMap.1 hu;exact Plan.oneCell_E e u he
theorem append_G {ops:Array Oper} {rest:List Oper} {o:Oper} {a:Act} {Q:Exit→Act→World→Prop} (w:World) (hgd:o.guard=none) (s x:Operand)
 (ho:o.op=.call {callee:=.builtin .append,args:=#[s,x],argTypes:=#[70,70]})
 (base:Nat) (v:Value) (n:Nat) (xs:List Value) (hs:a.eval s=v) (hown:w.ownsRow base 71 7 v n xs)
 (ad:Addr) (m c:Nat) (news:List Value) (hx:a.eval x=.slice (some ad) m c) (hl:news.length=m*7) (hnews:∀ j u,news[j]? =some u→w.cell? (ad.add j)=some u) (h1:∀ u∈news,u.oneCell'=true)
 (hn:n+m<1000000) (hbase:base≤w.heap.size)
 (h:∀ v' w',w'.ownsRow base 71 7 v' (n+m) (xs++news)→w.grownBy w' v.ownBlock→wpList Tryz.prog ops Q rest (a.put o.dst v') w'):wpList Tryz.prog ops Q (o::rest) a w:=by
 obtain⟨i0,hi,hz0,hz1,hz2⟩:=info_parts Plan.infoE;exact wpList_append_own w hgd s x _ ho base _ i0 _ 7 56 Tryz.underlying70 hi hz0 hz1 hz2 rfl (by decide) v n xs hs hown ad m c news hx hl hnews h1 (by unfold maxLen;omega) (by omega) hbase (fun v' w' h2 h3 _=>h v' w' h2 h3)
theorem cont1 {X:Prop} {F:Nat→Option Addr→Nat→World→Prop} {G:Nat→Option Addr→Nat→World→Value→Value→Value→Value→Value→Value→Value→Value→Value→Value→Value→Value→Value→Value→Value→Value→Value→Value→Value→Value→Value→Value→Prop} (h1:(∀ N a c w u54 u55 u56 u57 u58 u59 u60 u61 u62 u63 u64 u65 u66 u67 u68 u69 u70 u71 u72 u73 u74 u75,F N a c w→G N a c w u54 u55 u56 u57 u58 u59 u60 u61 u62 u63 u64 u65 u66 u67 u68 u69 u70 u71 u72 u73 u74 u75)→X) (h2:∀ N a c w u54 u55 u56 u57 u58 u59 u60 u61 u62 u63 u64 u65 u66 u67 u68 u69 u70 u71 u72 u73 u74 u75,F N a c w→G N a c w u54 u55 u56 u57 u58 u59 u60 u61 u62 u63 u64 u65 u66 u67 u68 u69 u70 u71 u72 u73 u74 u75):X:=h1 h2
theorem append_0 {ops:Array Oper} {rest:List Oper} {o:Oper} {a:Act} {Q:Exit→Act→World→Prop} (w:World) (hgd:o.guard=none) (s x:Operand)
 (ho:o.op=.call {callee:=.builtin .append,args:=#[s,x],argTypes:=#[70,70]})
 (a2 ad:Option Addr) (n cap2 cd:Nat) (hs:a.eval s=.slice a2 n cap2) (hx:a.eval x=.slice ad 0 cd) (hc:n≤cap2) (ha:a2=none→n=0∧cap2=0)
 (h:wpList Tryz.prog ops Q rest (a.put o.dst (.slice a2 n cap2)) w):wpList Tryz.prog ops Q (o::rest) a w:=by
 obtain⟨i0,hi,hz0,hz1,hz2⟩:=info_parts Plan.infoE;have hu:=Tryz.underlying70;refine wpList_plain hgd fun _ hK=>?_
 have hr:(Builtin.append_ #[70,70] o.type #[.slice a2 n cap2,.slice ad 0 cd]).run Tryz.prog w=.ok (.slice a2 n cap2) w:=by
  cases a2 with
  |none=>
   obtain⟨rfl,rfl⟩:=ha rfl
   cases ad<;>simp[Builtin.append_,run_underlying hu,sizeOf,typeInfo,hi,Builtin.lenOf,Builtin.firstCells,loadCells,loadCellsFrom]
  |some a2=>
   cases ad<;>simp[Builtin.append_,run_underlying hu,sizeOf,typeInfo,hi,Builtin.lenOf,Builtin.firstCells,loadCells,loadCellsFrom,storeCells,hc]
 unfold Oper.wp execOp;simp only[ho,resolve,invoke,builtin,Sem.run_bind,Sem.run_pure,Result.andThen_ok,List.map_toArray,List.map_cons,List.map_nil,hs,hx,hr];exact hK _ _ h
set_option maxHeartbeats 16000000 in
theorem sp_any (HA0:∀ w,Calls Tryz.prog 31 #[] w fun e w'=>e=.returned (.bool true)∧Below w.heap.size w w') (vl:Value) (es:List Pk) (ab:Option Addr) (len cap:Nat) (bs:List Int) (w:World) (hv:Ow.Row w 0 7 vl (flatP es)) (hpk:∀ p∈es,PkOk p) (hbs:Plan.Bytes w ab len cap bs):
 Calls Tryz.prog 6 #[vl,.slice ab len cap] w fun e w'=>e=.returned (.bool true)∧Below w.heap.size w w':=by
 obtain⟨a,capp,rfl,hmax,hrow⟩:=row_picks hv;clear hv;obtain⟨n,hn⟩:∃ n,n=es.length:=⟨_,rfl⟩
 rw[←hn] at hmax;rw[←hn];obtain⟨wa,hwa⟩:∃ wa,wa=w.alloc (.cells #[zi 30,zu 200] 66):=⟨_,rfl⟩
 have HB0:Hid (∀ w',Below wa.heap.size wa w'→Below w.heap.size w w'):=fun w' hb=>by subst hwa;exact box_below hb
 have HS:Hid (Calls Tryz.prog 21 #[.agg #[zi 30,zu 200]] wa fun e w'=>∃ be pl,e=.returned (.tuple #[.pointer (some ⟨pl,0,none⟩),zi 0])∧EKt be wa [.obj pl (playerO be)] (new 30 200) w'):=snew_any 30 200 (by omega) (by omega) (by omega) (by omega) wa;have HN:Hid (∀ w,Calls Tryz.prog 7 #[zi 30,zu 200] w fun e w'=>∃ B be,e=.returned (.pointer (some ⟨B.bw,0,none⟩))∧WK B be w [] (wNew 30 200) w'):=fun w=>wnew_any 30 200 (by omega) (by omega) (by omega) (by omega) w
 have HA:=zH HA0;have HR:Hid (∀ i e,es[i]? =some e→∃ g off,a=some ⟨g,off,none⟩∧∀ w',Below wa.heap.size wa w'→∀ f u,f<7→(pkCs e)[f]? =some u→w'.cell? ⟨g,off+(i*7+f),none⟩=some u):=fun i e hx=>by
  obtain⟨g,off,h1,h2⟩:=hrow i e hx;exact⟨g,off,h1,fun w' hb=>h2 w' (HB0.out w' hb)⟩
 have HPK:=zH hpk;have HBY:Hid (∀ w',Below wa.heap.size wa w'→Plan.Bytes w' ab len cap bs):=fun w' hb=>hbs.below (HB0.out w' hb)
 have HLB:Hid (bs.length=len∧∀ i,i<bs.length→0≤bs.getD i 0∧bs.getD i 0<256):=by
  obtain⟨h1,h2,h3,h4⟩:=hbs;refine⟨h1,fun i hi=>?_⟩
  rcases h4 with h4|⟨B,off,_,_,h5⟩
  · omega
  · exact (h5 i (by omega)).2
 have hcap:=hbs.2.1;have hcap2:=hbs.2.2.1;have HL:=zH hn;clear hrow hn HA0 hbs hpk
 by_cases h500:len>500
 · have l1:(500:Int)<(len:Int):=by omega
   subst hwa;go_enter Tryz.func6,Tryz.ntmps6
   go_wp2_with (first
       |(go_at_call 21;refine HS.out.mono ?_;rintro e w1 ⟨be,pl,rfl,q⟩;have T0:=zH q;clear q HS)
       |(go_at_call 7;refine (HN.out _).mono ?_;rintro e w2 ⟨B,ce,rfl,q⟩;obtain⟨wo,q2,hc⟩:=e2_of T0.out q;obtain⟨bw,hbw⟩:∃ bw,bw=B.bw:=⟨_,rfl⟩;rw[←hbw] at q2 hc ⊢;have hpl:=(cell_of_obj (q2.obj (k:=pl) (o:=playerO be) (by simp)) 0 rfl).1;have HC:=zH hc;have T2:=zH q2;clear q q2 hc T0 hbw)
       |(go_at_call 30;refine (sengine_any pl be _ hpl).mono ?_;rintro e w' ⟨rfl,rfl⟩)
       |(go_at_call 31;refine (HA.out _).mono ?_;rintro e w3 ⟨rfl,hb⟩;have T3:=zH (T2.out.below hb);clear hb T2))
   go_ret;exact⟨rfl,HB0.out _ T3.out.toBelow⟩
 · have l1:(500<(len:Int))=False:=by simp;omega
   subst hwa;go_enter Tryz.func6,Tryz.ntmps6
   go_upto_region 7 with (first
       |(go_at_call 21;refine HS.out.mono ?_;rintro e w1 ⟨be,pl,rfl,q⟩;have T0:=zH q;clear q HS)
       |(go_at_call 7;refine (HN.out _).mono ?_;rintro e w2 ⟨B,ce,rfl,q⟩;obtain⟨wo,q2,hc⟩:=e2_of T0.out q;obtain⟨bw,hbw⟩:∃ bw,bw=B.bw:=⟨_,rfl⟩;rw[←hbw] at q2 hc ⊢;have hpl:=(cell_of_obj (q2.obj (k:=pl) (o:=playerO be) (by simp)) 0 rfl).1;have HC:=zH hc;have T2:=zH q2;clear q q2 hc T0 hbw)
       |(go_at_call 30;refine (sengine_any pl be _ hpl).mono ?_;rintro e w' ⟨rfl,rfl⟩)
       |(go_at_call 31;refine (HA.out _).mono ?_;rintro e w3 ⟨rfl,hb⟩;have T3:=zH (T2.out.below hb);clear hb T2))
   generalize w.alloc (.cells #[zi 30,zu 200] 66)=wa at*;clear hpl;go_wp2_with fail;obtain⟨ee,hee⟩:∃ ee,ee=es.map entE:=⟨_,rfl⟩
   have HEE:=zH hee;clear hee;have HB3:Hid (Below wa.heap.size wa w3):=T3.out.toBelow
   go_loopw [9,10] (fun v i wr=>∃ m:Nat,i=zi (m:Int)∧m≤150∧m≤n∧wr.ownsRow w3.heap.size 71 7 v m (Plan.flatE (ee.take m))∧Below w3.heap.size w3 wr) (fun _ i _=>150 - (intOf i).toNat)
   case atStart=>exact⟨0,rfl,by omega,by omega,World.ownsRow_nil _ _ _ _,Below.refl _ _⟩
   case round=>
    obtain⟨m,rfl,hm1,hm2,hown,hbel⟩:=hrel;obtain⟨a2,cap2,rfl,hn2,hm2',_⟩:=Ow.own_form hown;have n1:IntKind.i64.wrap ((m:Int)+1)=(m:Int)+1:=by rw[IntKind.wrap_i64];omega
    by_cases hlt:m<150∧m<n
    · obtain⟨hl1,hl2⟩:=hlt
      obtain⟨e,he⟩:∃ e,es[m]? =some e:=⟨es[m]'(by rw[←HL.out];exact hl2),List.getElem?_eq_getElem _⟩
      obtain⟨g,off,rfl,hr⟩:=HR.out m e he;have hr2:=hr wr (HB3.out.trans (hbel.mono HB3.out.size));obtain⟨en,hen⟩:∃ en,en=entE e:=⟨_,rfl⟩
      have HE:=zH (entry_to e wr);rw[←hen] at HE;have HT:Hid (Plan.flatE (ee.take (m+1))=Plan.flatE (ee.take m)++Plan.cellsE en):=by
       have h7:ee[m]? =some en:=by rw[HEE.out,List.getElem?_map,he,hen];rfl
       rw[List.take_add_one,h7];exact Plan.flatE_snoc _ _
      obtain⟨kd,s,l,k,key,hi,v⟩:=e;obtain⟨ek,es_,elv,eok,eoy,eoh,eov⟩:=en;have c0:=hr2 0 (zi kd) (by omega) rfl;have c1:=hr2 1 (zi s) (by omega) rfl;have c2:=hr2 2 (zi l) (by omega) rfl;have c3:=hr2 3 (zi k) (by omega) rfl;have c4:=hr2 4 (zi key) (by omega) rfl;have c5:=hr2 5 (zi hi) (by omega) rfl;have c6:=hr2 6 (zi v) (by omega) rfl;have i1:(0:Int)≤(m:Int):=by omega
      have i2:(m:Int)<(n:Int):=by omega
      have i3:(m:Int)<150:=by omega
      have HQ:=zH (zA hm1 hm2);simp only[Nat.add_zero,←Nat.add_assoc] at c0 c1 c2 c3 c4 c5 c6;clear hr hr2 he hen hm2 hm2';go_wp2_with fail;refine HE.out.mono ?_;rintro x w5 ⟨rfl,hq⟩;have hbel1:=Ow.below_base hbel hq;have hown1:=Ow.own_below hown hq;clear hown hbel hq c0 c1 c2 c3 c4 c5 c6 HE;go_wp2_with (at_builtin;refine Plan.append_E _ rfl (.tmp 64) (.tmp 70) rfl w3.heap.size (.slice a2 m cap2) m (Plan.flatE (ee.take m)) rfl (hown1.alloc _) ⟨w5.heap.size,0,none⟩ 1 (Plan.cellsE ⟨ek,es_,elv,eok,eoy,eoh,eov⟩) rfl rfl ?c1 (Plan.oneCell_E _) (by omega) ?c5 ?_)
      case c1=>exact Ow.new_row w5 (Plan.cellsE ⟨ek,es_,elv,eok,eoy,eoh,eov⟩) _ w5.heap.size rfl
      case c5=>have:=hbel1.size;simp;omega
      intro v' w6 hown2 hg2;have hbel2:Below w3.heap.size w3 w6:=Ow.grown_below (hown1.alloc _) (hbel1.alloc hbel1.size _) (by have:=hbel1.size;simp;omega) hg2;rw[←HT.out] at hown2;clear hg2 hown1 hbel1;go_wp2_with fail
      go_roundw
      case rel=>exact⟨m+1,rfl,by omega,by omega,hown2,hbel2⟩
      case measure=>simp[intOf];omega
    · have hlt2:m<n→¬ m<150:=fun a b=>hlt ⟨b,a⟩
      have HLT:=zH hlt2;have HBR:Hid (Below wa.heap.size wa wr):=HB3.out.trans (hbel.mono HB3.out.size);have HDE:=zH (Plan.rdecode_any ab len cap bs wr (HBY.out _ HBR.out) (by omega));have HOW:=zH hown;have HBE:=zH hbel;have HM:=zH (zA hm1 hm2);have HTL:Hid ((ee.take m).length=m):=by
       rw[List.length_take,HEE.out,List.length_map,←HL.out];exact Nat.min_eq_left hm2
      have HIT:Hid (∀ e∈ee.take m,Plan.I64 e):=fun e he=>by
       have h1:=List.mem_of_mem_take he;rw[HEE.out] at h1;obtain⟨p,hp,rfl⟩:=List.mem_map.1 h1;exact entE_i64 (HPK.out p hp)
      clear hlt hlt2 hm1 hm2 hown hbel;apply cont1 (F:=fun NL aL cL wx=>∃ L:List Plan.En,L.length=NL∧NL≤260∧(∀ e∈L,Plan.I64 e)∧E2 be ce wa [.row 7 (.slice aL NL cL) (Plan.flatE L),.obj pl (playerO be),.obj bw wo] [] (new 30 200) (new 30 200) wx)
      case h1=>
       intro CONT;have hk:((m:Int)<(n:Int))=False∨((m:Int)<(n:Int))=True∧((m:Int)<150)=False:=by
        by_cases h:m<n
        · exact .inr ⟨by simp;omega,by have:=HLT.out h;simp;omega⟩
        · exact .inl (by simp;omega)
       rcases hk with k1|⟨k1,k2⟩
       all_goals (
        go_upto_region 11 with fail
        go_cut [9] from 54 to 75 (fun v wx=>∃ NL aL cL,v=.slice aL NL cL∧∃ L:List Plan.En,L.length=NL∧NL≤260∧(∀ e∈L,Plan.I64 e)∧E2 be ce wa [.row 7 (.slice aL NL cL) (Plan.flatE L),.obj pl (playerO be),.obj bw wo] [] (new 30 200) (new 30 200) wx)
        case first=>
         go_wp2_with fail
         refine HDE.out.mono ?_
         rintro x w6 ⟨vd,rfl,hrow,hq⟩
         have hown1:=Ow.own_below HOW.out hq
         have hbel1:=Ow.below_base HBE.out hq
         have HD2:=zH (Plan.dec_length2 2000 bs)
         have HD3:=zH (dec_i64 2000 bs HLB.out.2)
         obtain⟨D,hD⟩:∃ D,D=Plan.dec 2000 bs:=⟨_,rfl⟩
         rw[←hD] at hrow HD2 HD3
         clear hq hD
         obtain⟨ad,nd,cd,rfl,hnd,hncd,hcd,h5⟩:=hrow
         rw[Plan.flatE_length] at hnd
         have HN2:Hid (nd=D.length∧m+nd<1000000∧D.length≤110):=by
          have h1:=HD2.out
          rw[HLB.out.1] at h1
          have h2:=HM.out.1
          exact⟨by omega,by omega,by omega⟩
         clear hnd
         by_cases hz:nd=0
         · subst hz
           clear h5
           have hD0:D=[]:=List.eq_nil_of_length_eq_zero HN2.out.1.symm
           have hform:m≤cap2∧(a2=none→m=0∧cap2=0):=by
            rcases hown1.2 with ⟨e1,e2⟩|⟨g,cap',cur,e1,_,_,e2,_⟩
            · simp only[Value.slice.injEq] at e1
              exact⟨by omega,fun _=>⟨e2,e1.2.2⟩⟩
            · simp only[Value.slice.injEq] at e1
              exact⟨by omega,fun h=>by rw[h] at e1;cases e1.1⟩
           have HH:=zH (zA hform (zA hown1 hbel1))
           clear hform hown1 hbel1
           go_wp2_with (at_builtin;refine append_0 _ rfl (.tmp 72) (.tmp 74) rfl a2 ad m cap2 cd rfl rfl HH.out.1.1 HH.out.1.2 ?_)
           have T4:Hid (E2 be ce wa [.row 7 (.slice a2 m cap2) (Plan.flatE (ee.take m++D)),.obj pl (playerO be),.obj bw wo] [] (new 30 200) (new 30 200) w6):=by
            rw[hD0,List.append_nil]
            exact T3.out.own HH.out.2.2 HH.out.2.1
           clear HH
           go_wp2_with fail
           go_meet
           exact⟨_,_,_,rfl,ee.take m++D,by rw[hD0,List.append_nil];exact HTL.out,by have:=HM.out.1;omega,fun e he=>(List.mem_append.1 he).elim (HIT.out e) (HD3.out e),T4.out⟩
         · obtain⟨g,off,rfl,_,hg,hcell⟩:=h5.resolve_left hz
           have hcell2:∀ j u,(Plan.flatE D)[j]? =some u→w6.cell? ((⟨g,off,none⟩:Addr).add j)=some u:=fun j u hu=>by
            have hj:j<nd*7:=by
             have:=(List.getElem?_eq_some_iff.1 hu).1
             rw[Plan.flatE_length] at this;have:=HN2.out.1;omega
            have h1:=hcell j hj
            rw[hu] at h1
            have e:(⟨g,off,none⟩:Addr).add j=⟨g,off+j,none⟩:=by simp only[Addr.add];split<;>simp_all
            rw[e]
            exact h1
           have HH:=zH (zA hcell2 (zA hown1 hbel1))
           clear hcell hcell2 h5 hown1 hbel1 hz hg
           go_wp2_with (at_builtin;refine append_G _ rfl (.tmp 72) (.tmp 74) rfl w3.heap.size (.slice a2 m cap2) m (Plan.flatE (ee.take m)) rfl HH.out.2.1 ⟨g,off,none⟩ nd cd (Plan.flatE D) rfl (by rw[Plan.flatE_length,HN2.out.1]) HH.out.1 (one_flat D) HN2.out.2.1 HH.out.2.2.size ?_)
           intro v' w7 hown2 hg2
           have hbel2:Below w3.heap.size w3 w7:=Ow.grown_below HH.out.2.1 HH.out.2.2 HH.out.2.2.size hg2
           have hfl:Plan.flatE (ee.take m)++Plan.flatE D=Plan.flatE (ee.take m++D):=by unfold Plan.flatE;rw[List.flatMap_append]
           rw[hfl] at hown2
           have T4:=zH (T3.out.own hbel2 hown2)
           have HOWN2:=zH hown2
           clear hown2 hbel2 hfl hg2 HH
           obtain⟨aL,cL,rfl,_⟩:=Ow.own_form HOWN2.out
           go_wp2_with fail
           go_meet
           exact⟨_,_,_,rfl,_,by rw[List.length_append,HTL.out,HN2.out.1],by have:=HM.out.1;have:=HN2.out;omega,fun e he=>(List.mem_append.1 he).elim (HIT.out e) (HD3.out e),T4.out⟩
        case rest=>
         obtain⟨NL,aL,cL,rfl,hF⟩:=hcut
         refine (‹∀ (a:Act) (w:World),Code.wp Tryz.prog _ _ a w→_› _ _ ?_)
         exact CONT NL aL cL _ u54 u55 u56 u57 u58 u59 u60 u61 u62 u63 u64 u65 u66 u67 u68 u69 u70 u71 u72 u73 u74 u75 hF)
      case h2=>
       intro NL aL cL w8 u54 u55 u56 u57 u58 u59 u60 u61 u62 u63 u64 u65 u66 u67 u68 u69 u70 u71 u72 u73 u74 u75 hF;clear HDE HOW HBE HM HTL HIT HBR HLT HR HBY HLB HPK HEE;obtain⟨L,hLN,hN,hI,q0⟩:=hF;have HI:=zH hI;have HLN:=zH hLN;have HQ0:=zH q0;clear hI hLN q0;go_wp2_with fail
       go_loopw [11] (fun i wr=>∃ (m:Nat) (ks:List Kept) (vs:List (Nat×Obj)) (σ:St),i=zi (m:Int)∧m≤NL∧EW 30 200 (3*m) σ∧σ.made≤m∧E2 be ce wa (ks++[.row 7 (.slice aL NL cL) (Plan.flatE L),.obj pl (playerO be),.obj bw wo]) vs σ σ wr) (fun i _=>NL - (intOf i).toNat)
       case atStart=>exact⟨0,[],[],_,rfl,by omega,EW.new (by omega) (by omega),Nat.le_refl _,HQ0.out⟩
       case round=>
        clear HQ0;obtain⟨m,ks,vs,σ,rfl,hm1,hW,hmd,q⟩:=hrel;have n1:IntKind.i64.wrap ((m:Int)+1)=(m:Int)+1:=by rw[IntKind.wrap_i64];omega
        by_cases hlt:m<NL
        · obtain⟨e,he⟩:∃ e,L[m]? =some e:=⟨L[m]'(by rw[HLN.out];exact hlt),List.getElem?_eq_getElem _⟩
          obtain⟨a',c',e1,hr⟩:=row_ent (q.rowOf (size:=7) (v:=.slice aL NL cL) (xs:=Plan.flatE L) (by simp));simp only[Value.slice.injEq] at e1;obtain⟨rfl,-,-⟩:=e1;obtain⟨g,off,rfl,hr2⟩:=hr m e he;have hi:=HI.out e (List.mem_of_getElem? he);obtain⟨ek,es_,elv,eok,eoy,eoh,eov⟩:=e;have c0:=hr2 0 (zi ek) (by omega) rfl;have c1:=hr2 1 (zi es_) (by omega) rfl;have c2:=hr2 2 (zi elv) (by omega) rfl;have c3:=hr2 3 (zi eok) (by omega) rfl;have c4:=hr2 4 (zi eoy) (by omega) rfl;have c5:=hr2 5 (zi eoh) (by omega) rfl;have c6:=hr2 6 (zi eov) (by omega) rfl;simp only[Nat.add_zero,←Nat.add_assoc] at c0 c1 c2 c3 c4 c5 c6;have i1:(0:Int)≤(m:Int):=by omega
          have i2:(m:Int)<(NL:Int):=by omega
          have T1:Hid (E2 be ce wa (.obj wr.heap.size (.cells #[zi ek,zi es_,zi elv,zi eok,zi eoy,zi eoh,zi eov] 71)::(ks++[.row 7 (.slice (some ⟨g,off,none⟩) NL cL) (Plan.flatE L),.obj pl (playerO be),.obj bw wo])) ((wr.heap.size+1,(.cells #[zi 9,zi 0,zi 0,zi 0,zi 0,.slice none 0 0,zi 0,zi 0] 83))::vs) σ σ ((wr.alloc (.cells #[zi ek,zi es_,zi elv,zi eok,zi eoy,zi eoh,zi eov] 71)).alloc (.cells #[zi 9,zi 0,zi 0,zi 0,zi 0,.slice none 0 0,zi 0,zi 0] 83))):=by
           have h:=(q.alloc (.cells #[zi ek,zi es_,zi elv,zi eok,zi eoy,zi eoh,zi eov] 71)).var (.cells #[zi 9,zi 0,zi 0,zi 0,zi 0,.slice none 0 0,zi 0,zi 0] 83);simp only[size_alloc] at h;exact h
          have HV:Hid (∀ p:Obj,(wr.heap.size+1,p) ∉ vs):=fun p hm=>absurd (q.vlt hm) (by omega)
          have HM:=zH (zA hm1 (zA hlt hmd));clear hr hr2 he q hm1 hlt hmd
          by_cases hV:Plan.V ⟨ek,es_,elv,eok,eoy,eoh,eov⟩
          · obtain⟨_,_,h1|h1|h1|h1⟩:=id hV
            · obtain⟨h1,-⟩:=h1
              replace h1:ek=1:=h1;subst h1;obtain⟨id,er,σ1,hW1,hm1,hc⟩:=hW.begin_ (by have:=HM.out;omega) (by have:=HM.out;omega) es_ elv
              have HE : Hid (Ent be pl σ σ1 ⟨1, es_, elv, eok, eoy, eoh, eov⟩ er id 0 0 0 0 0 []) := fun A w hb l f => entry_begin es_ elv eok eoy eoh eov hV hb l f (fun A' w' l' e' => by
                have h:=hc A' w' l'
                rw[e'] at h
                exact h)
              have HX : Hid (∀ ks' vs' w, E2 be ce wa ks' vs' σ σ w → Calls Tryz.prog 9 #[.pointer (some ⟨ce, 0, none⟩), zi es_, zi elv] w fun x w' => x = .returned (.tuple #[zi id, zi er]) ∧ E2 be ce wa ks' vs' σ σ1 w') := fun ks' vs' w q => (q.symm.left (R := fun x => x = .returned (.tuple #[zi id, zi er])) fun A l e => by
                have h:=hc A _ l
                rw[e] at h
                exact h).mono fun x w' h=>⟨h.1,h.2.symm⟩
              have HOK:=zH (fun w=>rok_v _ hV w);have HSO:=fun (ks':List Kept) vs' σ' τ' w' (q:E2 be ce wa (ks'++(.obj wr.heap.size (.cells #[zi 1,zi es_,zi elv,zi eok,zi eoy,zi eoh,zi eov] 71)::(ks++[.row 7 (.slice (some ⟨g,off,none⟩) NL cL) (Plan.flatE L),.obj pl (playerO be),.obj bw wo]))) vs' σ' τ' w')=>lay8 (HC.out _ (q.obj (k:=bw) (o:=wo) (by simp))) (q.obj (k:=wr.heap.size) (o:=(.cells #[zi 1,zi es_,zi elv,zi eok,zi eoy,zi eoh,zi eov] 71)) (by simp))
              replace HSO:=zH HSO;have HW1:Hid (EW 30 200 (3*m+3) σ1∧σ1.made≤m+1):=⟨hW1,by have:=HM.out.2.2;omega⟩
              clear hV hi hW hW1 hm1 hc
              go_upto_region 21 with (first
                |(go_at_call 23;refine (HOK.out _).mono ?_;rintro x w9 ⟨rfl,hb⟩;have T2:=zH (T1.out.below hb);have HTH:=zH (there_of (T2.out.varOf (g:=wr.heap.size+1) (o:=(.cells #[zi 9,zi 0,zi 0,zi 0,zi 0,.slice none 0 0,zi 0,zi 0] 83)) (by simp)));clear hb T1 HOK)
                |(refine wpList_store_mid rfl 83 (.tmp 13) (.tmp 89) rfl (wr.heap.size+1) 0 #[zi 0,zi 0,zi 0,zi 0,zi 0,.slice none 0 0,zi 0,zi 0] rfl rfl HTH.out (by kernel_rfl) (by simp[Value.oneCell']) ?_;have T3:=zH (T2.out.all8 HV.out (zi 0) (zi 0) (zi 0) (zi 0) (zi 0) (.slice none 0 0) (zi 0) (zi 0));generalize World.setCells _ _ _ _=ws at *;obtain⟨x0,e0,e1,e2,e3,e4,e5,e6⟩:=HSO.out [] _ _ _ _ T3.out;clear T2 HTH))
              have T3D:=zH T3.out.drew
              go_region_held3 (fun w'=>w'.cell? ⟨bw,0,none⟩=some (.pointer (some ⟨ce,0,none⟩))∧w'.cell? ⟨wr.heap.size,0,none⟩=some (zi 1)∧w'.cell? ⟨wr.heap.size,1,none⟩=some (zi es_)∧w'.cell? ⟨wr.heap.size,2,none⟩=some (zi elv)∧w'.cell? ⟨wr.heap.size,3,none⟩=some (zi eok)∧w'.cell? ⟨wr.heap.size,4,none⟩=some (zi eoy)∧w'.cell? ⟨wr.heap.size,5,none⟩=some (zi eoh)∧w'.cell? ⟨wr.heap.size,6,none⟩=some (zi eov))
               (first|exact⟨x0,e0,e1,e2,e3,e4,e5,e6⟩|exact HSO.out [] _ _ _ _ T4.out|exact HSO.out [] _ _ _ _ (T4.out.set HV.out _ _)|exact HSO.out [] _ _ _ _ ((T4.out.set HV.out _ _).set HV.out _ _))
               (first|(go_at_call 9;refine (HX.out _ _ _ T3D.out).mono ?_;rintro x w4 ⟨rfl,q⟩;have T4:=zH q;obtain⟨y0,z0⟩:=cell_of_obj (T4.out.varOf (g:=wr.heap.size+1) (o:=(.cells #[zi 0,zi 0,zi 0,zi 0,zi 0,.slice none 0 0,zi 0,zi 0] 83)) (by simp)) 0 rfl;obtain⟨y1,z1⟩:=cell_of_obj (T4.out.varOf (g:=wr.heap.size+1) (o:=(.cells #[zi 0,zi 0,zi 0,zi 0,zi 0,.slice none 0 0,zi 0,zi 0] 83)) (by simp)) 1 rfl;obtain⟨y2,z2⟩:=cell_of_obj (T4.out.varOf (g:=wr.heap.size+1) (o:=(.cells #[zi 0,zi 0,zi 0,zi 0,zi 0,.slice none 0 0,zi 0,zi 0] 83)) (by simp)) 2 rfl;clear q T3 T3D HX))
              have T5:=zH ((T4.out.set HV.out 1 (zi id)).set HV.out 0 (zi er));generalize hw9:World.setCell (World.setCell w4 ⟨wr.heap.size+1,1,none⟩ (zi id)) ⟨wr.heap.size+1,0,none⟩ (zi er)=w9 at*;clear hw9 T4 y0 z0 y1 z1 y2 z2;have T5:=zH ((by simpa only[List.setIfInBounds_toArray,List.set_cons_zero,List.set_cons_succ] using T5.out):E2 be ce wa (.obj wr.heap.size (.cells #[zi 1,zi es_,zi elv,zi eok,zi eoy,zi eoh,zi eov] 71)::(ks++[.row 7 (.slice (some ⟨g,off,none⟩) NL cL) (Plan.flatE L),.obj pl (playerO be),.obj bw wo])) ((wr.heap.size+1,(.cells #[zi er,zi id,zi 0,zi 0,zi 0,.slice none 0 0,zi 0,zi 0] 83))::vs) σ σ1 w9);go_upto_region 29 with fail
              have HS9:=fun (ks':List Kept) σ' τ' w' (q:E2 be ce wa (ks'++(.obj wr.heap.size (.cells #[zi 1,zi es_,zi elv,zi eok,zi eoy,zi eoh,zi eov] 71)::(ks++[.row 7 (.slice (some ⟨g,off,none⟩) NL cL) (Plan.flatE L),.obj pl (playerO be),.obj bw wo]))) ((wr.heap.size+1,(.cells #[zi er,zi id,zi 0,zi 0,zi 0,.slice none 0 0,zi 0,zi 0] 83))::vs) σ' τ' w')=>lay17 (cell_of_obj (q.obj (k:=pl) (o:=playerO be) (by simp)) 0 rfl).1 (HC.out _ (q.obj (k:=bw) (o:=wo) (by simp))) (q.obj (k:=wr.heap.size) (o:=(.cells #[zi 1,zi es_,zi elv,zi eok,zi eoy,zi eoh,zi eov] 71)) (by simp)) (q.varOf (g:=wr.heap.size+1) (o:=(.cells #[zi er,zi id,zi 0,zi 0,zi 0,.slice none 0 0,zi 0,zi 0] 83)) (by simp))
              replace HS9:=zH HS9;have S0:=HS9.out [] _ _ _ T5.out;have T5D:=zH T5.out.drew;obtain⟨nw,hnw⟩:∃ nw,nw=(σ1).now:=⟨_,rfl⟩
              obtain⟨us,hus⟩:∃ us,us=(σ1).used:=⟨_,rfl⟩
              have HNW:=zH (zA hnw (HW1.out.1.wf.sh.wd 0).u);have HUS:=zH (zA hus HW1.out.1.wf.usedOk);clear hnw hus T5
              go_region_held3 (fun w'=>w'.cell? ⟨pl,0,none⟩=some (.pointer (some ⟨be,0,none⟩))∧w'.cell? ⟨bw,0,none⟩=some (.pointer (some ⟨ce,0,none⟩))∧w'.cell? ⟨wr.heap.size,0,none⟩=some (zi 1)∧w'.cell? ⟨wr.heap.size,1,none⟩=some (zi es_)∧w'.cell? ⟨wr.heap.size,2,none⟩=some (zi elv)∧w'.cell? ⟨wr.heap.size,3,none⟩=some (zi eok)∧w'.cell? ⟨wr.heap.size,4,none⟩=some (zi eoy)∧w'.cell? ⟨wr.heap.size,5,none⟩=some (zi eoh)∧w'.cell? ⟨wr.heap.size,6,none⟩=some (zi eov)∧w'.cell? ⟨wr.heap.size+1,0,none⟩=some (zi er)∧w'.cell? ⟨wr.heap.size+1,1,none⟩=some (zi id)∧w'.cell? ⟨wr.heap.size+1,2,none⟩=some (zi 0)∧w'.cell? ⟨wr.heap.size+1,3,none⟩=some (zi 0)∧w'.cell? ⟨wr.heap.size+1,4,none⟩=some (zi 0)∧w'.cell? ⟨wr.heap.size+1,5,none⟩=some (.slice none 0 0)∧w'.cell? ⟨wr.heap.size+1,6,none⟩=some (zi 0)∧w'.cell? ⟨wr.heap.size+1,7,none⟩=some (zi 0))
               (first|exact S0|assumption|go_keep|exact HS9.out [_] _ _ _ T6.out|exact HS9.out [_] _ _ _ T7.out|exact HS9.out [_] _ _ _ T8.out|exact HS9.out [_] _ _ _ T9.out|exact HS9.out [_] _ _ _ TA.out|exact HS9.out [_] _ _ _ TB.out|exact HS9.out [_] _ _ _ TC.out|exact HS9.out [_] _ _ _ TD.out)
               (first
                 |(go_at_call 27;refine (E2.entry (pn:=0) HE.out (by first|rfl|exact HPN.out) T5D.out (by simp)).mono ?_;clear S0;rintro x wA ⟨va2,vc2,rfl,qA⟩;have T6:=zH qA;clear qA T5D)
                 |(go_at_call 26;refine (same_any er id 0 0 0 0 0 va2 none 0 vc2 0 [] _ (T6.out.rowOf List.mem_cons_self) (rowNil _)).mono ?_;rintro x wB ⟨rfl,hb⟩;have T7:=zH (T6.out.below hb);clear hb T6)
                 |(go_at_call 30;refine (sengine_any pl be _ (HS9.out [_] _ _ _ T7.out).1).mono ?_;rintro x w' ⟨rfl,rfl⟩;have T8:=T7;clear T7)
                 |(go_at_call 19;refine (E2.now1 HNW.out.1 HNW.out.2 T8.out).mono ?_;rintro x wC ⟨rfl,qC⟩;have T9:=zH qC;clear qC T8)
                 |(go_at_call 19;refine (E2.now2 HNW.out.1 HNW.out.2 T9.out).mono ?_;rintro x wD ⟨rfl,qD⟩;have TA:=zH qD;clear qD T9)
                 |(go_at_call 30;refine (sengine_any pl be _ (HS9.out [_] _ _ _ TA.out).1).mono ?_;rintro x w' ⟨rfl,rfl⟩;have TB:=TA;clear TA)
                 |(go_at_call 36;refine (E2.used1 HUS.out.1 HUS.out.2 TB.out).mono ?_;rintro x wE ⟨rfl,qE⟩;have TC:=zH qE;clear qE TB)
                 |(go_at_call 36;refine (E2.used2 HUS.out.1 HUS.out.2 TC.out).mono ?_;rintro x wF ⟨rfl,qF⟩;have TD:=zH qF;clear qF TC))
              go_wp2_with fail
              go_roundw
              case rel=>exact⟨m+1,_::_::ks,_::vs,(σ1).list,rfl,by have:=HM.out.2.1;omega,HW1.out.1.list.mono (by omega),by have:=HW1.out.2;rw[list_made];exact this,TD.out⟩
              case measure=>simp[intOf];have:=HM.out.2.1;omega
            · obtain⟨h1,-⟩:=h1
              replace h1:ek=2:=h1;subst h1;obtain⟨er,σ1,hW1,hm1,hc⟩:=hW.issue (by have:=HM.out;omega) es_ eok eoy eoh eov
              have HE : Hid (Ent be pl σ σ1 ⟨2, es_, elv, eok, eoy, eoh, eov⟩ er 0 0 0 0 0 0 []) := fun A w hb l f => entry_issue es_ elv eok eoy eoh eov hV hb l f (fun A' w' l' e' => by
                have h:=hc A' w' l'
                rw[e'] at h
                exact h)
              have HX : Hid (∀ ks' vs' w, E2 be ce wa ks' vs' σ σ w → Calls Tryz.prog 33 #[.pointer (some ⟨ce, 0, none⟩), zi es_, .agg #[zi eok, zi eoy, zi eoh, zi eov]] w fun x w' => x = .returned (zi er) ∧ E2 be ce wa ks' vs' σ σ1 w') := fun ks' vs' w q => (q.symm.left (R := fun x => x = .returned (zi er)) fun A l e => by
                have h:=hc A _ l
                rw[e] at h
                exact h).mono fun x w' h=>⟨h.1,h.2.symm⟩
              have HOK:=zH (fun w=>rok_v _ hV w);have HSO:=fun (ks':List Kept) vs' σ' τ' w' (q:E2 be ce wa (ks'++(.obj wr.heap.size (.cells #[zi 2,zi es_,zi elv,zi eok,zi eoy,zi eoh,zi eov] 71)::(ks++[.row 7 (.slice (some ⟨g,off,none⟩) NL cL) (Plan.flatE L),.obj pl (playerO be),.obj bw wo]))) vs' σ' τ' w')=>lay8 (HC.out _ (q.obj (k:=bw) (o:=wo) (by simp))) (q.obj (k:=wr.heap.size) (o:=(.cells #[zi 2,zi es_,zi elv,zi eok,zi eoy,zi eoh,zi eov] 71)) (by simp))
              replace HSO:=zH HSO;have HW1:Hid (EW 30 200 (3*m+3) σ1∧σ1.made≤m+1):=⟨hW1,by have:=HM.out.2.2;omega⟩
              clear hV hi hW hW1 hm1 hc
              go_upto_region 23 with (first
                |(go_at_call 23;refine (HOK.out _).mono ?_;rintro x w9 ⟨rfl,hb⟩;have T2:=zH (T1.out.below hb);have HTH:=zH (there_of (T2.out.varOf (g:=wr.heap.size+1) (o:=(.cells #[zi 9,zi 0,zi 0,zi 0,zi 0,.slice none 0 0,zi 0,zi 0] 83)) (by simp)));clear hb T1 HOK)
                |(refine wpList_store_mid rfl 83 (.tmp 13) (.tmp 89) rfl (wr.heap.size+1) 0 #[zi 0,zi 0,zi 0,zi 0,zi 0,.slice none 0 0,zi 0,zi 0] rfl rfl HTH.out (by kernel_rfl) (by simp[Value.oneCell']) ?_;have T3:=zH (T2.out.all8 HV.out (zi 0) (zi 0) (zi 0) (zi 0) (zi 0) (.slice none 0 0) (zi 0) (zi 0));generalize World.setCells _ _ _ _=ws at *;obtain⟨x0,e0,e1,e2,e3,e4,e5,e6⟩:=HSO.out [] _ _ _ _ T3.out;clear T2 HTH))
              have T3D:=zH T3.out.drew
              go_region_held3 (fun w'=>w'.cell? ⟨bw,0,none⟩=some (.pointer (some ⟨ce,0,none⟩))∧w'.cell? ⟨wr.heap.size,0,none⟩=some (zi 2)∧w'.cell? ⟨wr.heap.size,1,none⟩=some (zi es_)∧w'.cell? ⟨wr.heap.size,2,none⟩=some (zi elv)∧w'.cell? ⟨wr.heap.size,3,none⟩=some (zi eok)∧w'.cell? ⟨wr.heap.size,4,none⟩=some (zi eoy)∧w'.cell? ⟨wr.heap.size,5,none⟩=some (zi eoh)∧w'.cell? ⟨wr.heap.size,6,none⟩=some (zi eov))
               (first|exact⟨x0,e0,e1,e2,e3,e4,e5,e6⟩|exact HSO.out [] _ _ _ _ T4.out|exact HSO.out [] _ _ _ _ (T4.out.set HV.out _ _)|exact HSO.out [] _ _ _ _ ((T4.out.set HV.out _ _).set HV.out _ _))
               (first|(go_at_call 33;refine (HX.out _ _ _ T3D.out).mono ?_;rintro x w4 ⟨rfl,q⟩;have T4:=zH q;obtain⟨y0,z0⟩:=cell_of_obj (T4.out.varOf (g:=wr.heap.size+1) (o:=(.cells #[zi 0,zi 0,zi 0,zi 0,zi 0,.slice none 0 0,zi 0,zi 0] 83)) (by simp)) 0 rfl;obtain⟨y1,z1⟩:=cell_of_obj (T4.out.varOf (g:=wr.heap.size+1) (o:=(.cells #[zi 0,zi 0,zi 0,zi 0,zi 0,.slice none 0 0,zi 0,zi 0] 83)) (by simp)) 1 rfl;obtain⟨y2,z2⟩:=cell_of_obj (T4.out.varOf (g:=wr.heap.size+1) (o:=(.cells #[zi 0,zi 0,zi 0,zi 0,zi 0,.slice none 0 0,zi 0,zi 0] 83)) (by simp)) 2 rfl;clear q T3 T3D HX))
              have T5:=zH (T4.out.set HV.out 0 (zi er));generalize hw9:World.setCell w4 ⟨wr.heap.size+1,0,none⟩ (zi er)=w9 at*;clear hw9 T4 y0 z0 y1 z1 y2 z2;have T5:=zH ((by simpa only[List.setIfInBounds_toArray,List.set_cons_zero,List.set_cons_succ] using T5.out):E2 be ce wa (.obj wr.heap.size (.cells #[zi 2,zi es_,zi elv,zi eok,zi eoy,zi eoh,zi eov] 71)::(ks++[.row 7 (.slice (some ⟨g,off,none⟩) NL cL) (Plan.flatE L),.obj pl (playerO be),.obj bw wo])) ((wr.heap.size+1,(.cells #[zi er,zi 0,zi 0,zi 0,zi 0,.slice none 0 0,zi 0,zi 0] 83))::vs) σ σ1 w9);go_upto_region 29 with fail
              have HS9:=fun (ks':List Kept) σ' τ' w' (q:E2 be ce wa (ks'++(.obj wr.heap.size (.cells #[zi 2,zi es_,zi elv,zi eok,zi eoy,zi eoh,zi eov] 71)::(ks++[.row 7 (.slice (some ⟨g,off,none⟩) NL cL) (Plan.flatE L),.obj pl (playerO be),.obj bw wo]))) ((wr.heap.size+1,(.cells #[zi er,zi 0,zi 0,zi 0,zi 0,.slice none 0 0,zi 0,zi 0] 83))::vs) σ' τ' w')=>lay17 (cell_of_obj (q.obj (k:=pl) (o:=playerO be) (by simp)) 0 rfl).1 (HC.out _ (q.obj (k:=bw) (o:=wo) (by simp))) (q.obj (k:=wr.heap.size) (o:=(.cells #[zi 2,zi es_,zi elv,zi eok,zi eoy,zi eoh,zi eov] 71)) (by simp)) (q.varOf (g:=wr.heap.size+1) (o:=(.cells #[zi er,zi 0,zi 0,zi 0,zi 0,.slice none 0 0,zi 0,zi 0] 83)) (by simp))
              replace HS9:=zH HS9;have S0:=HS9.out [] _ _ _ T5.out;have T5D:=zH T5.out.drew;obtain⟨nw,hnw⟩:∃ nw,nw=(σ1).now:=⟨_,rfl⟩
              obtain⟨us,hus⟩:∃ us,us=(σ1).used:=⟨_,rfl⟩
              have HNW:=zH (zA hnw (HW1.out.1.wf.sh.wd 0).u);have HUS:=zH (zA hus HW1.out.1.wf.usedOk);clear hnw hus T5
              go_region_held3 (fun w'=>w'.cell? ⟨pl,0,none⟩=some (.pointer (some ⟨be,0,none⟩))∧w'.cell? ⟨bw,0,none⟩=some (.pointer (some ⟨ce,0,none⟩))∧w'.cell? ⟨wr.heap.size,0,none⟩=some (zi 2)∧w'.cell? ⟨wr.heap.size,1,none⟩=some (zi es_)∧w'.cell? ⟨wr.heap.size,2,none⟩=some (zi elv)∧w'.cell? ⟨wr.heap.size,3,none⟩=some (zi eok)∧w'.cell? ⟨wr.heap.size,4,none⟩=some (zi eoy)∧w'.cell? ⟨wr.heap.size,5,none⟩=some (zi eoh)∧w'.cell? ⟨wr.heap.size,6,none⟩=some (zi eov)∧w'.cell? ⟨wr.heap.size+1,0,none⟩=some (zi er)∧w'.cell? ⟨wr.heap.size+1,1,none⟩=some (zi 0)∧w'.cell? ⟨wr.heap.size+1,2,none⟩=some (zi 0)∧w'.cell? ⟨wr.heap.size+1,3,none⟩=some (zi 0)∧w'.cell? ⟨wr.heap.size+1,4,none⟩=some (zi 0)∧w'.cell? ⟨wr.heap.size+1,5,none⟩=some (.slice none 0 0)∧w'.cell? ⟨wr.heap.size+1,6,none⟩=some (zi 0)∧w'.cell? ⟨wr.heap.size+1,7,none⟩=some (zi 0))
               (first|exact S0|assumption|go_keep|exact HS9.out [_] _ _ _ T6.out|exact HS9.out [_] _ _ _ T7.out|exact HS9.out [_] _ _ _ T8.out|exact HS9.out [_] _ _ _ T9.out|exact HS9.out [_] _ _ _ TA.out|exact HS9.out [_] _ _ _ TB.out|exact HS9.out [_] _ _ _ TC.out|exact HS9.out [_] _ _ _ TD.out)
               (first
                 |(go_at_call 27;refine (E2.entry (pn:=0) HE.out (by first|rfl|exact HPN.out) T5D.out (by simp)).mono ?_;clear S0;rintro x wA ⟨va2,vc2,rfl,qA⟩;have T6:=zH qA;clear qA T5D)
                 |(go_at_call 26;refine (same_any er 0 0 0 0 0 0 va2 none 0 vc2 0 [] _ (T6.out.rowOf List.mem_cons_self) (rowNil _)).mono ?_;rintro x wB ⟨rfl,hb⟩;have T7:=zH (T6.out.below hb);clear hb T6)
                 |(go_at_call 30;refine (sengine_any pl be _ (HS9.out [_] _ _ _ T7.out).1).mono ?_;rintro x w' ⟨rfl,rfl⟩;have T8:=T7;clear T7)
                 |(go_at_call 19;refine (E2.now1 HNW.out.1 HNW.out.2 T8.out).mono ?_;rintro x wC ⟨rfl,qC⟩;have T9:=zH qC;clear qC T8)
                 |(go_at_call 19;refine (E2.now2 HNW.out.1 HNW.out.2 T9.out).mono ?_;rintro x wD ⟨rfl,qD⟩;have TA:=zH qD;clear qD T9)
                 |(go_at_call 30;refine (sengine_any pl be _ (HS9.out [_] _ _ _ TA.out).1).mono ?_;rintro x w' ⟨rfl,rfl⟩;have TB:=TA;clear TA)
                 |(go_at_call 36;refine (E2.used1 HUS.out.1 HUS.out.2 TB.out).mono ?_;rintro x wE ⟨rfl,qE⟩;have TC:=zH qE;clear qE TB)
                 |(go_at_call 36;refine (E2.used2 HUS.out.1 HUS.out.2 TC.out).mono ?_;rintro x wF ⟨rfl,qF⟩;have TD:=zH qF;clear qF TC))
              go_wp2_with fail
              go_roundw
              case rel=>exact⟨m+1,_::_::ks,_::vs,(σ1).list,rfl,by have:=HM.out.2.1;omega,HW1.out.1.list.mono (by omega),by have:=HW1.out.2;rw[list_made];exact this,TD.out⟩
              case measure=>simp[intOf];have:=HM.out.2.1;omega
            · obtain⟨h1,-⟩:=h1
              replace h1:ek=3:=h1;subst h1;obtain⟨kd,re,rv,rn,ro,er,ps,σ1,hW1,hm1,hc⟩:=hW.step (by have:=HM.out;omega) es_
              have HE : Hid (Ent be pl σ σ1 ⟨3, es_, elv, eok, eoy, eoh, eov⟩ er 0 kd re rv rn ro ps) := fun A w hb l f => entry_step es_ elv eok eoy eoh eov hV hb l f (fun A' w' l' e' => by
                have h:=hc A' w' l'
                rw[e'] at h
                refine h.mono ?_
                rintro x w' ⟨B',vp,h1,h2,h3,h4,h5⟩
                exact⟨B',vp,h1,h2,h3,h4,by rw[h5,e']⟩)
              obtain⟨pn,hpn⟩:∃ pn,pn=ps.length:=⟨_,rfl⟩
              have HPN:=zH hpn;clear hpn
              have HX : Hid (∀ ks' vs' w, E2 be ce wa ks' vs' σ σ w → Calls Tryz.prog 34 #[.pointer (some ⟨ce, 0, none⟩), zi es_] w fun x w' => ∃ va vc, x = .returned (.tuple #[.agg #[zi kd, zi re, zi rv, .slice va pn vc, zi rn, zi ro], zi er]) ∧ E2 be ce wa (.row 2 (.slice va pn vc) (pairCs ps) :: ks') vs' σ σ1 w') := fun ks' vs' w q => (q.symm.leftRow (R := fun x vp => x = .returned (.tuple #[.agg #[zi kd, zi re, zi rv, vp, zi rn, zi ro], zi er])) (σ' := σ1) (size := 2) (xs := pairCs ps) fun A l e => by
                have h:=hc A _ l
                rw[e] at h
                refine h.mono ?_
                rintro x w' ⟨A',vp,h1,h2,h3,h4,h5⟩
                exact⟨A',vp,h1,h2,h3,h4,by rw[h5,e]⟩).mono fun x w' ⟨vp,h1,h2⟩=>by
               obtain⟨a,n,c,rfl,hn,_,_,_⟩:=h2.rowOf List.mem_cons_self;rw[pairCs_len] at hn;obtain rfl:n=pn:=by have:=HPN.out;omega
               exact⟨a,c,h1,h2.symm⟩
              have HOK:=zH (fun w=>rok_v _ hV w);have HSO:=fun (ks':List Kept) vs' σ' τ' w' (q:E2 be ce wa (ks'++(.obj wr.heap.size (.cells #[zi 3,zi es_,zi elv,zi eok,zi eoy,zi eoh,zi eov] 71)::(ks++[.row 7 (.slice (some ⟨g,off,none⟩) NL cL) (Plan.flatE L),.obj pl (playerO be),.obj bw wo]))) vs' σ' τ' w')=>lay8 (HC.out _ (q.obj (k:=bw) (o:=wo) (by simp))) (q.obj (k:=wr.heap.size) (o:=(.cells #[zi 3,zi es_,zi elv,zi eok,zi eoy,zi eoh,zi eov] 71)) (by simp))
              replace HSO:=zH HSO;have HW1:Hid (EW 30 200 (3*m+3) σ1∧σ1.made≤m+1):=⟨hW1,by have:=HM.out.2.2;omega⟩
              clear hV hi hW hW1 hm1 hc
              go_upto_region 25 with (first
                |(go_at_call 23;refine (HOK.out _).mono ?_;rintro x w9 ⟨rfl,hb⟩;have T2:=zH (T1.out.below hb);have HTH:=zH (there_of (T2.out.varOf (g:=wr.heap.size+1) (o:=(.cells #[zi 9,zi 0,zi 0,zi 0,zi 0,.slice none 0 0,zi 0,zi 0] 83)) (by simp)));clear hb T1 HOK)
                |(refine wpList_store_mid rfl 83 (.tmp 13) (.tmp 89) rfl (wr.heap.size+1) 0 #[zi 0,zi 0,zi 0,zi 0,zi 0,.slice none 0 0,zi 0,zi 0] rfl rfl HTH.out (by kernel_rfl) (by simp[Value.oneCell']) ?_;have T3:=zH (T2.out.all8 HV.out (zi 0) (zi 0) (zi 0) (zi 0) (zi 0) (.slice none 0 0) (zi 0) (zi 0));generalize World.setCells _ _ _ _=ws at *;obtain⟨x0,e0,e1,e2,e3,e4,e5,e6⟩:=HSO.out [] _ _ _ _ T3.out;clear T2 HTH))
              have T3D:=zH T3.out.drew;clear T3;refine wp_region_held_drew (S:=fun w'=>w'.cell? ⟨bw,0,none⟩=some (.pointer (some ⟨ce,0,none⟩))∧w'.cell? ⟨wr.heap.size,0,none⟩=some (zi 3)∧w'.cell? ⟨wr.heap.size,1,none⟩=some (zi es_)∧w'.cell? ⟨wr.heap.size,2,none⟩=some (zi elv)∧w'.cell? ⟨wr.heap.size,3,none⟩=some (zi eok)∧w'.cell? ⟨wr.heap.size,4,none⟩=some (zi eoy)∧w'.cell? ⟨wr.heap.size,5,none⟩=some (zi eoh)∧w'.cell? ⟨wr.heap.size,6,none⟩=some (zi eov)) (by kernel_rfl) ?_ (fun hHeld=>?_)
              · (try dsimp only);exact⟨x0,e0,e1,e2,e3,e4,e5,e6⟩
              clear x0 e0 e1 e2 e3 e4 e5 e6;generalize ws.drew=vd at*;refine zqt (i:=0) rfl hHeld ?_
              (try simp only[zqa,zqb,zqc,Act.put,zqd,zqe,zqf])
              refine zqt (i:=1) rfl hHeld ?_
              (try simp only[zqa,zqb,zqc,Act.put,zqd,zqe,zqf])
              refine zqt (i:=2) rfl hHeld ?_
              (try simp only[zqa,zqb,zqc,Act.put,zqd,zqe,zqf])
              refine zqt (i:=3) rfl hHeld ?_
              (try simp only[zqa,zqb,zqc,Act.put,zqd,zqe,zqf])
              refine zqt (i:=4) rfl hHeld ?_
              (try simp only[zqa,zqb,zqc,Act.put,zqd,zqe,zqf])
              refine zqt (i:=5) rfl hHeld ?_
              (try simp only[zqa,zqb,zqc,Act.put,zqd,zqe,zqf])
              refine wpAnyH_ready (rs:=[6]) (by kernel_rfl) (by simp) ?_;refine AllReadyH.cons (o:=_) rfl (fun K hK=>?_) (AllReadyH.nil);go_simp
              (go_at_call 34;refine (HX.out _ _ _ T3D.out).mono ?_;rintro x w4 ⟨va,vc,rfl,q⟩;have T4:=zH q;have HTD:=zH (there_mid (T4.out.varOf (g:=wr.heap.size+1) (o:=(.cells #[zi 0,zi 0,zi 0,zi 0,zi 0,.slice none 0 0,zi 0,zi 0] 83)) (by simp)));clear q T3D)
              refine hK.out _ _ ?_ (fun hHeld=>?_)
              · (try dsimp only);exact HSO.out [_] _ _ _ _ T4.out
              clear hK K
              (try simp only[zqa,zqb,zqc,Act.put,zqd,zqe,zqf])
              refine zqt (i:=7) rfl hHeld ?_
              (try simp only[zqa,zqb,zqc,Act.put,zqd,zqe,zqf])
              refine zqt (i:=8) rfl hHeld ?_
              (try simp only[zqa,zqb,zqc,Act.put,zqd,zqe,zqf])
              refine zqt (i:=9) rfl hHeld ?_
              (try simp only[zqa,zqb,zqc,Act.put,zqd,zqe,zqf])
              refine zqt (i:=10) rfl hHeld ?_
              (try simp only[zqa,zqb,zqc,Act.put,zqd,zqe,zqf])
              refine wpAnyH_ready (rs:=[11]) (by kernel_rfl) (by simp) ?_;refine AllReadyH.cons (o:=_) rfl (fun K hK=>?_) (AllReadyH.nil);rw[if_pos (by rfl)];refine wp_store_mid 81 (.tmp 132) (.tmp 130) rfl (wr.heap.size+1) 2 #[zi kd,zi re,zi rv,.slice va pn vc,zi rn,zi ro] rfl rfl (HTD.out 2 6 (by simp)) (by kernel_rfl) (by simp[Value.oneCell']) ?_;have T4a:=zH (T4.out.mid HV.out (zi kd) (zi re) (zi rv) (.slice va pn vc) (zi rn) (zi ro));generalize World.setCells _ _ _ _=w4a at*;clear HTD T4;obtain⟨y0,z0⟩:=cell_of_obj (T4a.out.varOf (g:=wr.heap.size+1) (o:=(.cells #[zi 0,zi 0,zi kd,zi re,zi rv,.slice va pn vc,zi rn,zi ro] 83)) (by simp)) 0 rfl;refine hK.out _ _ ?_ (fun hHeld=>?_)
              · (try dsimp only);exact HSO.out [_] _ _ _ _ T4a.out
              clear hK K
              (try simp only[zqa,zqb,zqc,Act.put,zqd,zqe,zqf])
              refine wpAnyH_ready (rs:=[12]) (by kernel_rfl) (by simp) ?_;refine AllReadyH.cons (o:=_) rfl (fun K hK=>?_) (AllReadyH.nil);go_simp;refine hK.out _ _ ?_ (fun hHeld=>?_)
              · (try dsimp only);exact HSO.out [_] _ _ _ _ T4a.out
              clear hK K
              (try simp only[zqa,zqb,zqc,Act.put,zqd,zqe,zqf])
              refine wpAnyH_ready (rs:=[13]) (by kernel_rfl) (by simp) ?_;refine AllReadyH.cons (o:=_) rfl (fun K hK=>?_) (AllReadyH.nil);go_simp;have T5:=zH (T4a.out.set HV.out 0 (zi er));generalize World.setCell _ _ _=w9 at*;refine hK.out _ _ ?_ (fun hHeld=>?_)
              · (try dsimp only);exact HSO.out [_] _ _ _ _ T5.out
              clear hK K
              (try simp only[zqa,zqb,zqc,Act.put,zqd,zqe,zqf])
              refine wpAnyH_done (by kernel_rfl) ?_ _;clear hHeld T4a y0 z0;have T5:=zH ((by simpa only[List.setIfInBounds_toArray,List.set_cons_zero,List.set_cons_succ] using T5.out):E2 be ce wa (.row 2 (.slice va pn vc) (pairCs ps)::.obj wr.heap.size (.cells #[zi 3,zi es_,zi elv,zi eok,zi eoy,zi eoh,zi eov] 71)::(ks++[.row 7 (.slice (some ⟨g,off,none⟩) NL cL) (Plan.flatE L),.obj pl (playerO be),.obj bw wo])) ((wr.heap.size+1,(.cells #[zi er,zi 0,zi kd,zi re,zi rv,.slice va pn vc,zi rn,zi ro] 83))::vs) σ σ1 w9);go_upto_region 29 with fail
              have HS9:=fun (ks':List Kept) σ' τ' w' (q:E2 be ce wa (ks'++(.row 2 (.slice va pn vc) (pairCs ps)::.obj wr.heap.size (.cells #[zi 3,zi es_,zi elv,zi eok,zi eoy,zi eoh,zi eov] 71)::(ks++[.row 7 (.slice (some ⟨g,off,none⟩) NL cL) (Plan.flatE L),.obj pl (playerO be),.obj bw wo]))) ((wr.heap.size+1,(.cells #[zi er,zi 0,zi kd,zi re,zi rv,.slice va pn vc,zi rn,zi ro] 83))::vs) σ' τ' w')=>lay17 (cell_of_obj (q.obj (k:=pl) (o:=playerO be) (by simp)) 0 rfl).1 (HC.out _ (q.obj (k:=bw) (o:=wo) (by simp))) (q.obj (k:=wr.heap.size) (o:=(.cells #[zi 3,zi es_,zi elv,zi eok,zi eoy,zi eoh,zi eov] 71)) (by simp)) (q.varOf (g:=wr.heap.size+1) (o:=(.cells #[zi er,zi 0,zi kd,zi re,zi rv,.slice va pn vc,zi rn,zi ro] 83)) (by simp))
              replace HS9:=zH HS9;have S0:=HS9.out [] _ _ _ T5.out;have T5D:=zH T5.out.drew;obtain⟨nw,hnw⟩:∃ nw,nw=(σ1).now:=⟨_,rfl⟩
              obtain⟨us,hus⟩:∃ us,us=(σ1).used:=⟨_,rfl⟩
              have HNW:=zH (zA hnw (HW1.out.1.wf.sh.wd 0).u);have HUS:=zH (zA hus HW1.out.1.wf.usedOk);clear hnw hus T5
              go_region_held3 (fun w'=>w'.cell? ⟨pl,0,none⟩=some (.pointer (some ⟨be,0,none⟩))∧w'.cell? ⟨bw,0,none⟩=some (.pointer (some ⟨ce,0,none⟩))∧w'.cell? ⟨wr.heap.size,0,none⟩=some (zi 3)∧w'.cell? ⟨wr.heap.size,1,none⟩=some (zi es_)∧w'.cell? ⟨wr.heap.size,2,none⟩=some (zi elv)∧w'.cell? ⟨wr.heap.size,3,none⟩=some (zi eok)∧w'.cell? ⟨wr.heap.size,4,none⟩=some (zi eoy)∧w'.cell? ⟨wr.heap.size,5,none⟩=some (zi eoh)∧w'.cell? ⟨wr.heap.size,6,none⟩=some (zi eov)∧w'.cell? ⟨wr.heap.size+1,0,none⟩=some (zi er)∧w'.cell? ⟨wr.heap.size+1,1,none⟩=some (zi 0)∧w'.cell? ⟨wr.heap.size+1,2,none⟩=some (zi kd)∧w'.cell? ⟨wr.heap.size+1,3,none⟩=some (zi re)∧w'.cell? ⟨wr.heap.size+1,4,none⟩=some (zi rv)∧w'.cell? ⟨wr.heap.size+1,5,none⟩=some (.slice va pn vc)∧w'.cell? ⟨wr.heap.size+1,6,none⟩=some (zi rn)∧w'.cell? ⟨wr.heap.size+1,7,none⟩=some (zi ro))
               (first|exact S0|assumption|go_keep|exact HS9.out [_] _ _ _ T6.out|exact HS9.out [_] _ _ _ T7.out|exact HS9.out [_] _ _ _ T8.out|exact HS9.out [_] _ _ _ T9.out|exact HS9.out [_] _ _ _ TA.out|exact HS9.out [_] _ _ _ TB.out|exact HS9.out [_] _ _ _ TC.out|exact HS9.out [_] _ _ _ TD.out)
               (first
                 |(go_at_call 27;refine (E2.entry (pn:=pn) HE.out (by first|rfl|exact HPN.out) T5D.out (by simp)).mono ?_;clear S0;rintro x wA ⟨va2,vc2,rfl,qA⟩;have T6:=zH qA;clear qA T5D)
                 |(go_at_call 26;refine (same_any er 0 kd re rv rn ro va2 va pn vc2 vc ps _ (T6.out.rowOf List.mem_cons_self) (T6.out.rowOf (size:=2) (v:=.slice va pn vc) (xs:=pairCs ps) (by simp))).mono ?_;rintro x wB ⟨rfl,hb⟩;have T7:=zH (T6.out.below hb);clear hb T6)
                 |(go_at_call 30;refine (sengine_any pl be _ (HS9.out [_] _ _ _ T7.out).1).mono ?_;rintro x w' ⟨rfl,rfl⟩;have T8:=T7;clear T7)
                 |(go_at_call 19;refine (E2.now1 HNW.out.1 HNW.out.2 T8.out).mono ?_;rintro x wC ⟨rfl,qC⟩;have T9:=zH qC;clear qC T8)
                 |(go_at_call 19;refine (E2.now2 HNW.out.1 HNW.out.2 T9.out).mono ?_;rintro x wD ⟨rfl,qD⟩;have TA:=zH qD;clear qD T9)
                 |(go_at_call 30;refine (sengine_any pl be _ (HS9.out [_] _ _ _ TA.out).1).mono ?_;rintro x w' ⟨rfl,rfl⟩;have TB:=TA;clear TA)
                 |(go_at_call 36;refine (E2.used1 HUS.out.1 HUS.out.2 TB.out).mono ?_;rintro x wE ⟨rfl,qE⟩;have TC:=zH qE;clear qE TB)
                 |(go_at_call 36;refine (E2.used2 HUS.out.1 HUS.out.2 TC.out).mono ?_;rintro x wF ⟨rfl,qF⟩;have TD:=zH qF;clear qF TC))
              go_wp2_with fail
              go_roundw
              case rel=>exact⟨m+1,_::_::_::ks,_::vs,(σ1).list,rfl,by have:=HM.out.2.1;omega,HW1.out.1.list.mono (by omega),by have:=HW1.out.2;rw[list_made];exact this,TD.out⟩
              case measure=>simp[intOf];have:=HM.out.2.1;omega
            · obtain⟨h1,-⟩:=h1
              replace h1:ek=4:=h1;subst h1;obtain⟨hW1,hm1,hc⟩:=hW.sweep (by have:=HM.out;omega);obtain⟨σ1,hσ1⟩:∃ σ1,σ1=σ.sweep.1:=⟨_,rfl⟩
              rw[←hσ1] at hW1 hm1 hc;clear hσ1
              cases hsb:σ.sweep.2
              · rw[hsb] at hc
                clear hsb
                have HE : Hid (Ent be pl σ σ1 ⟨4, es_, elv, eok, eoy, eoh, eov⟩ 0 0 0 0 0 0 0 []) := fun A w hb l f => entry_sweepN es_ elv eok eoy eoh eov hV hb l f (fun A' w' l' e' => by
                  have h:=hc A' w' l'
                  rw[e'] at h
                  exact h)
                have HX : Hid (∀ ks' vs' w, E2 be ce wa ks' vs' σ σ w → Calls Tryz.prog 35 #[.pointer (some ⟨ce, 0, none⟩)] w fun x w' => x = .returned (.bool false) ∧ E2 be ce wa ks' vs' σ σ1 w') := fun ks' vs' w q => (q.symm.left (R := fun x => x = .returned (.bool false)) fun A l e => by
                  have h:=hc A _ l
                  rw[e] at h
                  exact h).mono fun x w' h=>⟨h.1,h.2.symm⟩
                have HOK:=zH (fun w=>rok_v _ hV w);have HSO:=fun (ks':List Kept) vs' σ' τ' w' (q:E2 be ce wa (ks'++(.obj wr.heap.size (.cells #[zi 4,zi es_,zi elv,zi eok,zi eoy,zi eoh,zi eov] 71)::(ks++[.row 7 (.slice (some ⟨g,off,none⟩) NL cL) (Plan.flatE L),.obj pl (playerO be),.obj bw wo]))) vs' σ' τ' w')=>lay8 (HC.out _ (q.obj (k:=bw) (o:=wo) (by simp))) (q.obj (k:=wr.heap.size) (o:=(.cells #[zi 4,zi es_,zi elv,zi eok,zi eoy,zi eoh,zi eov] 71)) (by simp))
                replace HSO:=zH HSO;have HW1:Hid (EW 30 200 (3*m+3) σ1∧σ1.made≤m+1):=⟨hW1,by have:=HM.out.2.2;omega⟩
                clear hV hi hW hW1 hm1 hc
                go_upto_region 29 with (first
                  |(go_at_call 23;refine (HOK.out _).mono ?_;rintro x w9 ⟨rfl,hb⟩;have T2:=zH (T1.out.below hb);have HTH:=zH (there_of (T2.out.varOf (g:=wr.heap.size+1) (o:=(.cells #[zi 9,zi 0,zi 0,zi 0,zi 0,.slice none 0 0,zi 0,zi 0] 83)) (by simp)));clear hb T1 HOK)
                  |(refine wpList_store_mid rfl 83 (.tmp 13) (.tmp 89) rfl (wr.heap.size+1) 0 #[zi 0,zi 0,zi 0,zi 0,zi 0,.slice none 0 0,zi 0,zi 0] rfl rfl HTH.out (by kernel_rfl) (by simp[Value.oneCell']) ?_;have T3:=zH (T2.out.all8 HV.out (zi 0) (zi 0) (zi 0) (zi 0) (zi 0) (.slice none 0 0) (zi 0) (zi 0));generalize World.setCells _ _ _ _=ws at *;obtain⟨x0,e0,e1,e2,e3,e4,e5,e6⟩:=HSO.out [] _ _ _ _ T3.out;clear T2 HTH)
                  |(go_at_call 35;refine (HX.out _ _ _ T3.out).mono ?_;rintro x w4 ⟨rfl,q⟩;have T4:=zH q;obtain⟨y0,z0⟩:=cell_of_obj (T4.out.varOf (g:=wr.heap.size+1) (o:=(.cells #[zi 0,zi 0,zi 0,zi 0,zi 0,.slice none 0 0,zi 0,zi 0] 83)) (by simp)) 0 rfl;obtain⟨y1,z1⟩:=cell_of_obj (T4.out.varOf (g:=wr.heap.size+1) (o:=(.cells #[zi 0,zi 0,zi 0,zi 0,zi 0,.slice none 0 0,zi 0,zi 0] 83)) (by simp)) 1 rfl;obtain⟨y2,z2⟩:=cell_of_obj (T4.out.varOf (g:=wr.heap.size+1) (o:=(.cells #[zi 0,zi 0,zi 0,zi 0,zi 0,.slice none 0 0,zi 0,zi 0] 83)) (by simp)) 2 rfl;clear q T3 HX))
                have T5:=T4;clear T4 y0 z0 y1 z1 y2 z2;have HS9:=fun (ks':List Kept) σ' τ' w' (q:E2 be ce wa (ks'++(.obj wr.heap.size (.cells #[zi 4,zi es_,zi elv,zi eok,zi eoy,zi eoh,zi eov] 71)::(ks++[.row 7 (.slice (some ⟨g,off,none⟩) NL cL) (Plan.flatE L),.obj pl (playerO be),.obj bw wo]))) ((wr.heap.size+1,(.cells #[zi 0,zi 0,zi 0,zi 0,zi 0,.slice none 0 0,zi 0,zi 0] 83))::vs) σ' τ' w')=>lay17 (cell_of_obj (q.obj (k:=pl) (o:=playerO be) (by simp)) 0 rfl).1 (HC.out _ (q.obj (k:=bw) (o:=wo) (by simp))) (q.obj (k:=wr.heap.size) (o:=(.cells #[zi 4,zi es_,zi elv,zi eok,zi eoy,zi eoh,zi eov] 71)) (by simp)) (q.varOf (g:=wr.heap.size+1) (o:=(.cells #[zi 0,zi 0,zi 0,zi 0,zi 0,.slice none 0 0,zi 0,zi 0] 83)) (by simp))
                replace HS9:=zH HS9;have S0:=HS9.out [] _ _ _ T5.out;have T5D:=zH T5.out.drew;obtain⟨nw,hnw⟩:∃ nw,nw=(σ1).now:=⟨_,rfl⟩
                obtain⟨us,hus⟩:∃ us,us=(σ1).used:=⟨_,rfl⟩
                have HNW:=zH (zA hnw (HW1.out.1.wf.sh.wd 0).u);have HUS:=zH (zA hus HW1.out.1.wf.usedOk);clear hnw hus T5
                go_region_held3 (fun w'=>w'.cell? ⟨pl,0,none⟩=some (.pointer (some ⟨be,0,none⟩))∧w'.cell? ⟨bw,0,none⟩=some (.pointer (some ⟨ce,0,none⟩))∧w'.cell? ⟨wr.heap.size,0,none⟩=some (zi 4)∧w'.cell? ⟨wr.heap.size,1,none⟩=some (zi es_)∧w'.cell? ⟨wr.heap.size,2,none⟩=some (zi elv)∧w'.cell? ⟨wr.heap.size,3,none⟩=some (zi eok)∧w'.cell? ⟨wr.heap.size,4,none⟩=some (zi eoy)∧w'.cell? ⟨wr.heap.size,5,none⟩=some (zi eoh)∧w'.cell? ⟨wr.heap.size,6,none⟩=some (zi eov)∧w'.cell? ⟨wr.heap.size+1,0,none⟩=some (zi 0)∧w'.cell? ⟨wr.heap.size+1,1,none⟩=some (zi 0)∧w'.cell? ⟨wr.heap.size+1,2,none⟩=some (zi 0)∧w'.cell? ⟨wr.heap.size+1,3,none⟩=some (zi 0)∧w'.cell? ⟨wr.heap.size+1,4,none⟩=some (zi 0)∧w'.cell? ⟨wr.heap.size+1,5,none⟩=some (.slice none 0 0)∧w'.cell? ⟨wr.heap.size+1,6,none⟩=some (zi 0)∧w'.cell? ⟨wr.heap.size+1,7,none⟩=some (zi 0))
                 (first|exact S0|assumption|go_keep|exact HS9.out [_] _ _ _ T6.out|exact HS9.out [_] _ _ _ T7.out|exact HS9.out [_] _ _ _ T8.out|exact HS9.out [_] _ _ _ T9.out|exact HS9.out [_] _ _ _ TA.out|exact HS9.out [_] _ _ _ TB.out|exact HS9.out [_] _ _ _ TC.out|exact HS9.out [_] _ _ _ TD.out)
                 (first
                   |(go_at_call 27;refine (E2.entry (pn:=0) HE.out (by first|rfl|exact HPN.out) T5D.out (by simp)).mono ?_;clear S0;rintro x wA ⟨va2,vc2,rfl,qA⟩;have T6:=zH qA;clear qA T5D)
                   |(go_at_call 26;refine (same_any 0 0 0 0 0 0 0 va2 none 0 vc2 0 [] _ (T6.out.rowOf List.mem_cons_self) (rowNil _)).mono ?_;rintro x wB ⟨rfl,hb⟩;have T7:=zH (T6.out.below hb);clear hb T6)
                   |(go_at_call 30;refine (sengine_any pl be _ (HS9.out [_] _ _ _ T7.out).1).mono ?_;rintro x w' ⟨rfl,rfl⟩;have T8:=T7;clear T7)
                   |(go_at_call 19;refine (E2.now1 HNW.out.1 HNW.out.2 T8.out).mono ?_;rintro x wC ⟨rfl,qC⟩;have T9:=zH qC;clear qC T8)
                   |(go_at_call 19;refine (E2.now2 HNW.out.1 HNW.out.2 T9.out).mono ?_;rintro x wD ⟨rfl,qD⟩;have TA:=zH qD;clear qD T9)
                   |(go_at_call 30;refine (sengine_any pl be _ (HS9.out [_] _ _ _ TA.out).1).mono ?_;rintro x w' ⟨rfl,rfl⟩;have TB:=TA;clear TA)
                   |(go_at_call 36;refine (E2.used1 HUS.out.1 HUS.out.2 TB.out).mono ?_;rintro x wE ⟨rfl,qE⟩;have TC:=zH qE;clear qE TB)
                   |(go_at_call 36;refine (E2.used2 HUS.out.1 HUS.out.2 TC.out).mono ?_;rintro x wF ⟨rfl,qF⟩;have TD:=zH qF;clear qF TC))
                go_wp2_with fail
                go_roundw
                case rel=>exact⟨m+1,_::_::ks,_::vs,(σ1).list,rfl,by have:=HM.out.2.1;omega,HW1.out.1.list.mono (by omega),by have:=HW1.out.2;rw[list_made];exact this,TD.out⟩
                case measure=>simp[intOf];have:=HM.out.2.1;omega
              · rw[hsb] at hc
                clear hsb
                have HE : Hid (Ent be pl σ σ1 ⟨4, es_, elv, eok, eoy, eoh, eov⟩ 0 0 1 0 0 0 0 []) := fun A w hb l f => entry_sweepY es_ elv eok eoy eoh eov hV hb l f (fun A' w' l' e' => by
                  have h:=hc A' w' l'
                  rw[e'] at h
                  exact h)
                have HX : Hid (∀ ks' vs' w, E2 be ce wa ks' vs' σ σ w → Calls Tryz.prog 35 #[.pointer (some ⟨ce, 0, none⟩)] w fun x w' => x = .returned (.bool true) ∧ E2 be ce wa ks' vs' σ σ1 w') := fun ks' vs' w q => (q.symm.left (R := fun x => x = .returned (.bool true)) fun A l e => by
                  have h:=hc A _ l
                  rw[e] at h
                  exact h).mono fun x w' h=>⟨h.1,h.2.symm⟩
                have HOK:=zH (fun w=>rok_v _ hV w);have HSO:=fun (ks':List Kept) vs' σ' τ' w' (q:E2 be ce wa (ks'++(.obj wr.heap.size (.cells #[zi 4,zi es_,zi elv,zi eok,zi eoy,zi eoh,zi eov] 71)::(ks++[.row 7 (.slice (some ⟨g,off,none⟩) NL cL) (Plan.flatE L),.obj pl (playerO be),.obj bw wo]))) vs' σ' τ' w')=>lay8 (HC.out _ (q.obj (k:=bw) (o:=wo) (by simp))) (q.obj (k:=wr.heap.size) (o:=(.cells #[zi 4,zi es_,zi elv,zi eok,zi eoy,zi eoh,zi eov] 71)) (by simp))
                replace HSO:=zH HSO;have HW1:Hid (EW 30 200 (3*m+3) σ1∧σ1.made≤m+1):=⟨hW1,by have:=HM.out.2.2;omega⟩
                clear hV hi hW hW1 hm1 hc
                go_upto_region 29 with (first
                  |(go_at_call 23;refine (HOK.out _).mono ?_;rintro x w9 ⟨rfl,hb⟩;have T2:=zH (T1.out.below hb);have HTH:=zH (there_of (T2.out.varOf (g:=wr.heap.size+1) (o:=(.cells #[zi 9,zi 0,zi 0,zi 0,zi 0,.slice none 0 0,zi 0,zi 0] 83)) (by simp)));clear hb T1 HOK)
                  |(refine wpList_store_mid rfl 83 (.tmp 13) (.tmp 89) rfl (wr.heap.size+1) 0 #[zi 0,zi 0,zi 0,zi 0,zi 0,.slice none 0 0,zi 0,zi 0] rfl rfl HTH.out (by kernel_rfl) (by simp[Value.oneCell']) ?_;have T3:=zH (T2.out.all8 HV.out (zi 0) (zi 0) (zi 0) (zi 0) (zi 0) (.slice none 0 0) (zi 0) (zi 0));generalize World.setCells _ _ _ _=ws at *;obtain⟨x0,e0,e1,e2,e3,e4,e5,e6⟩:=HSO.out [] _ _ _ _ T3.out;clear T2 HTH)
                  |(go_at_call 35;refine (HX.out _ _ _ T3.out).mono ?_;rintro x w4 ⟨rfl,q⟩;have T4:=zH q;obtain⟨y0,z0⟩:=cell_of_obj (T4.out.varOf (g:=wr.heap.size+1) (o:=(.cells #[zi 0,zi 0,zi 0,zi 0,zi 0,.slice none 0 0,zi 0,zi 0] 83)) (by simp)) 0 rfl;obtain⟨y1,z1⟩:=cell_of_obj (T4.out.varOf (g:=wr.heap.size+1) (o:=(.cells #[zi 0,zi 0,zi 0,zi 0,zi 0,.slice none 0 0,zi 0,zi 0] 83)) (by simp)) 1 rfl;obtain⟨y2,z2⟩:=cell_of_obj (T4.out.varOf (g:=wr.heap.size+1) (o:=(.cells #[zi 0,zi 0,zi 0,zi 0,zi 0,.slice none 0 0,zi 0,zi 0] 83)) (by simp)) 2 rfl;clear q T3 HX))
                have T5:=zH (T4.out.set HV.out 2 (zi 1));generalize hw9:World.setCell w4 ⟨wr.heap.size+1,2,none⟩ (zi 1)=w9 at*;clear hw9 T4 y0 z0 y1 z1 y2 z2;have T5:=zH ((by simpa only[List.setIfInBounds_toArray,List.set_cons_zero,List.set_cons_succ] using T5.out):E2 be ce wa (.obj wr.heap.size (.cells #[zi 4,zi es_,zi elv,zi eok,zi eoy,zi eoh,zi eov] 71)::(ks++[.row 7 (.slice (some ⟨g,off,none⟩) NL cL) (Plan.flatE L),.obj pl (playerO be),.obj bw wo])) ((wr.heap.size+1,(.cells #[zi 0,zi 0,zi 1,zi 0,zi 0,.slice none 0 0,zi 0,zi 0] 83))::vs) σ σ1 w9);have HS9:=fun (ks':List Kept) σ' τ' w' (q:E2 be ce wa (ks'++(.obj wr.heap.size (.cells #[zi 4,zi es_,zi elv,zi eok,zi eoy,zi eoh,zi eov] 71)::(ks++[.row 7 (.slice (some ⟨g,off,none⟩) NL cL) (Plan.flatE L),.obj pl (playerO be),.obj bw wo]))) ((wr.heap.size+1,(.cells #[zi 0,zi 0,zi 1,zi 0,zi 0,.slice none 0 0,zi 0,zi 0] 83))::vs) σ' τ' w')=>lay17 (cell_of_obj (q.obj (k:=pl) (o:=playerO be) (by simp)) 0 rfl).1 (HC.out _ (q.obj (k:=bw) (o:=wo) (by simp))) (q.obj (k:=wr.heap.size) (o:=(.cells #[zi 4,zi es_,zi elv,zi eok,zi eoy,zi eoh,zi eov] 71)) (by simp)) (q.varOf (g:=wr.heap.size+1) (o:=(.cells #[zi 0,zi 0,zi 1,zi 0,zi 0,.slice none 0 0,zi 0,zi 0] 83)) (by simp))
                replace HS9:=zH HS9;have S0:=HS9.out [] _ _ _ T5.out;have T5D:=zH T5.out.drew;obtain⟨nw,hnw⟩:∃ nw,nw=(σ1).now:=⟨_,rfl⟩
                obtain⟨us,hus⟩:∃ us,us=(σ1).used:=⟨_,rfl⟩
                have HNW:=zH (zA hnw (HW1.out.1.wf.sh.wd 0).u);have HUS:=zH (zA hus HW1.out.1.wf.usedOk);clear hnw hus T5
                go_region_held3 (fun w'=>w'.cell? ⟨pl,0,none⟩=some (.pointer (some ⟨be,0,none⟩))∧w'.cell? ⟨bw,0,none⟩=some (.pointer (some ⟨ce,0,none⟩))∧w'.cell? ⟨wr.heap.size,0,none⟩=some (zi 4)∧w'.cell? ⟨wr.heap.size,1,none⟩=some (zi es_)∧w'.cell? ⟨wr.heap.size,2,none⟩=some (zi elv)∧w'.cell? ⟨wr.heap.size,3,none⟩=some (zi eok)∧w'.cell? ⟨wr.heap.size,4,none⟩=some (zi eoy)∧w'.cell? ⟨wr.heap.size,5,none⟩=some (zi eoh)∧w'.cell? ⟨wr.heap.size,6,none⟩=some (zi eov)∧w'.cell? ⟨wr.heap.size+1,0,none⟩=some (zi 0)∧w'.cell? ⟨wr.heap.size+1,1,none⟩=some (zi 0)∧w'.cell? ⟨wr.heap.size+1,2,none⟩=some (zi 1)∧w'.cell? ⟨wr.heap.size+1,3,none⟩=some (zi 0)∧w'.cell? ⟨wr.heap.size+1,4,none⟩=some (zi 0)∧w'.cell? ⟨wr.heap.size+1,5,none⟩=some (.slice none 0 0)∧w'.cell? ⟨wr.heap.size+1,6,none⟩=some (zi 0)∧w'.cell? ⟨wr.heap.size+1,7,none⟩=some (zi 0))
                 (first|exact S0|assumption|go_keep|exact HS9.out [_] _ _ _ T6.out|exact HS9.out [_] _ _ _ T7.out|exact HS9.out [_] _ _ _ T8.out|exact HS9.out [_] _ _ _ T9.out|exact HS9.out [_] _ _ _ TA.out|exact HS9.out [_] _ _ _ TB.out|exact HS9.out [_] _ _ _ TC.out|exact HS9.out [_] _ _ _ TD.out)
                 (first
                   |(go_at_call 27;refine (E2.entry (pn:=0) HE.out (by first|rfl|exact HPN.out) T5D.out (by simp)).mono ?_;clear S0;rintro x wA ⟨va2,vc2,rfl,qA⟩;have T6:=zH qA;clear qA T5D)
                   |(go_at_call 26;refine (same_any 0 0 1 0 0 0 0 va2 none 0 vc2 0 [] _ (T6.out.rowOf List.mem_cons_self) (rowNil _)).mono ?_;rintro x wB ⟨rfl,hb⟩;have T7:=zH (T6.out.below hb);clear hb T6)
                   |(go_at_call 30;refine (sengine_any pl be _ (HS9.out [_] _ _ _ T7.out).1).mono ?_;rintro x w' ⟨rfl,rfl⟩;have T8:=T7;clear T7)
                   |(go_at_call 19;refine (E2.now1 HNW.out.1 HNW.out.2 T8.out).mono ?_;rintro x wC ⟨rfl,qC⟩;have T9:=zH qC;clear qC T8)
                   |(go_at_call 19;refine (E2.now2 HNW.out.1 HNW.out.2 T9.out).mono ?_;rintro x wD ⟨rfl,qD⟩;have TA:=zH qD;clear qD T9)
                   |(go_at_call 30;refine (sengine_any pl be _ (HS9.out [_] _ _ _ TA.out).1).mono ?_;rintro x w' ⟨rfl,rfl⟩;have TB:=TA;clear TA)
                   |(go_at_call 36;refine (E2.used1 HUS.out.1 HUS.out.2 TB.out).mono ?_;rintro x wE ⟨rfl,qE⟩;have TC:=zH qE;clear qE TB)
                   |(go_at_call 36;refine (E2.used2 HUS.out.1 HUS.out.2 TC.out).mono ?_;rintro x wF ⟨rfl,qF⟩;have TD:=zH qF;clear qF TC))
                go_wp2_with fail
                go_roundw
                case rel=>exact⟨m+1,_::_::ks,_::vs,(σ1).list,rfl,by have:=HM.out.2.1;omega,HW1.out.1.list.mono (by omega),by have:=HW1.out.2;rw[list_made];exact this,TD.out⟩
                case measure=>simp[intOf];have:=HM.out.2.1;omega
          · have HOK:=zH (fun w=>rok_nv _ hV w)
            have HE:Hid (Ent be pl σ σ ⟨ek,es_,elv,eok,eoy,eoh,eov⟩ 9 0 0 0 0 0 0 []):=fun A w hb l f=>entry_bad ek es_ elv eok eoy eoh eov hV hi hb l f
            have HW1:Hid (EW 30 200 (3*m+3) σ∧σ.made≤m+1):=⟨hW.mono (by omega),by have:=HM.out.2.2;omega⟩
            clear hV hi hW;go_upto_region 29 with (go_at_call 23;refine (HOK.out _).mono ?_;rintro x w9 ⟨rfl,hb⟩;have T5:=zH (T1.out.below hb);clear hb T1 HOK)
            have HS9:=fun (ks':List Kept) σ' τ' w' (q:E2 be ce wa (ks'++(.obj wr.heap.size (.cells #[zi ek,zi es_,zi elv,zi eok,zi eoy,zi eoh,zi eov] 71)::(ks++[.row 7 (.slice (some ⟨g,off,none⟩) NL cL) (Plan.flatE L),.obj pl (playerO be),.obj bw wo]))) ((wr.heap.size+1,(.cells #[zi 9,zi 0,zi 0,zi 0,zi 0,.slice none 0 0,zi 0,zi 0] 83))::vs) σ' τ' w')=>lay17 (cell_of_obj (q.obj (k:=pl) (o:=playerO be) (by simp)) 0 rfl).1 (HC.out _ (q.obj (k:=bw) (o:=wo) (by simp))) (q.obj (k:=wr.heap.size) (o:=(.cells #[zi ek,zi es_,zi elv,zi eok,zi eoy,zi eoh,zi eov] 71)) (by simp)) (q.varOf (g:=wr.heap.size+1) (o:=(.cells #[zi 9,zi 0,zi 0,zi 0,zi 0,.slice none 0 0,zi 0,zi 0] 83)) (by simp))
            replace HS9:=zH HS9;have S0:=HS9.out [] _ _ _ T5.out;have T5D:=zH T5.out.drew;obtain⟨nw,hnw⟩:∃ nw,nw=(σ).now:=⟨_,rfl⟩
            obtain⟨us,hus⟩:∃ us,us=(σ).used:=⟨_,rfl⟩
            have HNW:=zH (zA hnw (HW1.out.1.wf.sh.wd 0).u);have HUS:=zH (zA hus HW1.out.1.wf.usedOk);clear hnw hus T5
            go_region_held3 (fun w'=>w'.cell? ⟨pl,0,none⟩=some (.pointer (some ⟨be,0,none⟩))∧w'.cell? ⟨bw,0,none⟩=some (.pointer (some ⟨ce,0,none⟩))∧w'.cell? ⟨wr.heap.size,0,none⟩=some (zi ek)∧w'.cell? ⟨wr.heap.size,1,none⟩=some (zi es_)∧w'.cell? ⟨wr.heap.size,2,none⟩=some (zi elv)∧w'.cell? ⟨wr.heap.size,3,none⟩=some (zi eok)∧w'.cell? ⟨wr.heap.size,4,none⟩=some (zi eoy)∧w'.cell? ⟨wr.heap.size,5,none⟩=some (zi eoh)∧w'.cell? ⟨wr.heap.size,6,none⟩=some (zi eov)∧w'.cell? ⟨wr.heap.size+1,0,none⟩=some (zi 9)∧w'.cell? ⟨wr.heap.size+1,1,none⟩=some (zi 0)∧w'.cell? ⟨wr.heap.size+1,2,none⟩=some (zi 0)∧w'.cell? ⟨wr.heap.size+1,3,none⟩=some (zi 0)∧w'.cell? ⟨wr.heap.size+1,4,none⟩=some (zi 0)∧w'.cell? ⟨wr.heap.size+1,5,none⟩=some (.slice none 0 0)∧w'.cell? ⟨wr.heap.size+1,6,none⟩=some (zi 0)∧w'.cell? ⟨wr.heap.size+1,7,none⟩=some (zi 0))
             (first|exact S0|assumption|go_keep|exact HS9.out [_] _ _ _ T6.out|exact HS9.out [_] _ _ _ T7.out|exact HS9.out [_] _ _ _ T8.out|exact HS9.out [_] _ _ _ T9.out|exact HS9.out [_] _ _ _ TA.out|exact HS9.out [_] _ _ _ TB.out|exact HS9.out [_] _ _ _ TC.out|exact HS9.out [_] _ _ _ TD.out)
             (first
               |(go_at_call 27;refine (E2.entry (pn:=0) HE.out (by first|rfl|exact HPN.out) T5D.out (by simp)).mono ?_;clear S0;rintro x wA ⟨va2,vc2,rfl,qA⟩;have T6:=zH qA;clear qA T5D)
               |(go_at_call 26;refine (same_any 9 0 0 0 0 0 0 va2 none 0 vc2 0 [] _ (T6.out.rowOf List.mem_cons_self) (rowNil _)).mono ?_;rintro x wB ⟨rfl,hb⟩;have T7:=zH (T6.out.below hb);clear hb T6)
               |(go_at_call 30;refine (sengine_any pl be _ (HS9.out [_] _ _ _ T7.out).1).mono ?_;rintro x w' ⟨rfl,rfl⟩;have T8:=T7;clear T7)
               |(go_at_call 19;refine (E2.now1 HNW.out.1 HNW.out.2 T8.out).mono ?_;rintro x wC ⟨rfl,qC⟩;have T9:=zH qC;clear qC T8)
               |(go_at_call 19;refine (E2.now2 HNW.out.1 HNW.out.2 T9.out).mono ?_;rintro x wD ⟨rfl,qD⟩;have TA:=zH qD;clear qD T9)
               |(go_at_call 30;refine (sengine_any pl be _ (HS9.out [_] _ _ _ TA.out).1).mono ?_;rintro x w' ⟨rfl,rfl⟩;have TB:=TA;clear TA)
               |(go_at_call 36;refine (E2.used1 HUS.out.1 HUS.out.2 TB.out).mono ?_;rintro x wE ⟨rfl,qE⟩;have TC:=zH qE;clear qE TB)
               |(go_at_call 36;refine (E2.used2 HUS.out.1 HUS.out.2 TC.out).mono ?_;rintro x wF ⟨rfl,qF⟩;have TD:=zH qF;clear qF TC))
            go_wp2_with fail
            go_roundw
            case rel=>exact⟨m+1,_::_::ks,_::vs,(σ).list,rfl,by have:=HM.out.2.1;omega,HW1.out.1.list.mono (by omega),by have:=HW1.out.2;rw[list_made];exact this,TD.out⟩
            case measure=>simp[intOf];have:=HM.out.2.1;omega
        · have k1:((m:Int)<(NL:Int))=False:=by simp;omega
          have HS9:Hid (∀ ks' vs' σ' τ' w',E2 be ce wa (ks'++[.row 7 (.slice aL NL cL) (Plan.flatE L),.obj pl (playerO be),.obj bw wo]) vs' σ' τ' w'→w'.cell? ⟨pl,0,none⟩=some (.pointer (some ⟨be,0,none⟩))∧w'.cell? ⟨bw,0,none⟩=some (.pointer (some ⟨ce,0,none⟩))):=fun ks' vs' σ' τ' w' q=>⟨(cell_of_obj (q.obj (k:=pl) (o:=playerO be) (by simp)) 0 rfl).1,HC.out _ (q.obj (k:=bw) (o:=wo) (by simp))⟩
          have S0:=HS9.out _ _ _ _ _ q;have Q0:=zH q.drew;have ht1:σ.tale.length<100000:=by have:=hW.wf.sh.tl;omega
          have ht2:=hW.wf.sh.tp;obtain⟨tl,htl⟩:∃ tl,tl=σ.tale:=⟨_,rfl⟩
          have HT1:Hid (∀ ks' vs' τ' w,E2 be ce wa ks' vs' σ τ' w→Calls Tryz.prog 15 #[.pointer (some ⟨be,0,none⟩)] w fun e w'=>∃ v cs,e=.returned v∧Ow.Row w' 0 12 v cs∧EvR w' tl cs∧Below w.heap.size w w'):=fun ks' vs' τ' w q=>by rw[htl];exact q.tale ht1 ht2
          have HT2:Hid (∀ ks' vs' τ' w,E2 be ce wa ks' vs' τ' σ w→Calls Tryz.prog 15 #[.pointer (some ⟨ce,0,none⟩)] w fun e w'=>∃ v cs,e=.returned v∧Ow.Row w' 0 12 v cs∧EvR w' tl cs∧Below w.heap.size w w'):=fun ks' vs' τ' w q=>by rw[htl];exact q.symm.tale ht1 ht2
          clear hW ht1 ht2 htl q hmd hlt hm1;go_upto_region 31 with fail
          go_region_held3 (fun w'=>w'.cell? ⟨pl,0,none⟩=some (.pointer (some ⟨be,0,none⟩))∧w'.cell? ⟨bw,0,none⟩=some (.pointer (some ⟨ce,0,none⟩)))
           (first|exact S0|assumption|exact HS9.out _ _ _ _ _ Q1.out|exact HS9.out _ _ _ _ _ Q2.out|exact HS9.out _ _ _ _ _ Q3.out|exact HS9.out _ _ _ _ _ Q4.out)
           (first
             |(go_at_call 30;refine (sengine_any pl be _ (HS9.out _ _ _ _ _ Q0.out).1).mono ?_;rintro x w' ⟨rfl,rfl⟩;have Q1:=Q0;clear Q0)
             |(go_at_call 15;refine (HT1.out _ _ _ _ Q1.out).mono ?_;rintro x wA ⟨v1,cs1,rfl,r1,v1',hb⟩;have Q2:=zH (Q1.out.below hb);clear Q1 hb)
             |(go_at_call 15;refine (HT2.out _ _ _ _ Q2.out).mono ?_;rintro x wB ⟨v2,cs2,rfl,r2,v2',hb⟩;have Q3:=zH (Q2.out.below hb);have r12:=r1.below hb;have v12:=v1'.below hb;clear Q2 hb r1 v1')
             |(go_at_call 14;refine (same_events _ _ tl cs1 cs2 _ r12 r2 v12 v2').mono ?_;rintro x wC ⟨rfl,hb⟩;have Q4:=zH (Q3.out.below hb);clear Q3 hb r12 r2 v12 v2'))
          go_wp2_with fail;go_ret;exact⟨rfl,HB0.out _ Q4.out.toBelow⟩
theorem sp_walk (vl:Value) (es:List Pk) (a:Option Addr) (len cap:Nat) (zs:List Int) (w:World) (hv:Ow.Row w 0 7 vl (flatP es)) (hp:∀ p∈es,PkOk p) (hz:Sl.IsRow .u8 w a len cap zs):
 Calls Tryz.prog 6 #[vl,.slice a len cap] w fun e w'=>e=.returned (.bool true)∧Below w.heap.size w w':=
 sp_any awake26 vl es a len cap (zs.take len) w hv hp (Plan.bytes_of hz)
end Go.Proofs.YthicolbbmjfkfaaGreat.Em
