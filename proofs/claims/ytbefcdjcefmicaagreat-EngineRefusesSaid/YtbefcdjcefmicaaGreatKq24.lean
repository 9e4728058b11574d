import Derived.Test.YtbefcdjcefmicaaGreatKq23
import Derived.Laws.MakeOwn
namespace Go.Proofs.YtbefcdjcefmicaaGreat.Em
open Go.ChangeShapes Go.WideShapes Go.ChangeAt Go.RowKit En
set_option linter.unusedVariables false
set_option linter.unusedSimpArgs false
set_option maxRecDepth 100000
set_option maxHeartbeats 1600000
theorem opOk_true (o:En.Op) (h:opOk o=true) (w:World):Calls Tryz.prog 49 #[.agg #[zi (o.kind:Int),zi (o.key:Int),zi (o.hi:Int),zi (o.value:Int)]] w fun e w'=>e=.returned (.bool true)∧Below w.heap.size w w':=by
 have hb:Below w.heap.size w (w.alloc (.cells #[zi (o.kind:Int),zi (o.key:Int),zi (o.hi:Int),zi (o.value:Int)] 31)):=(Below.refl _ _).alloc (Nat.le_refl _) _;have HB:=zH hb;clear hb;obtain⟨kind,key,hi,value⟩:=o;unfold opOk at h;simp only at h HB ⊢;have hk:kind=1∨kind=2∨kind=3∨kind=4∨kind=5∨kind=6∨kind=7:=by
  by_cases h1:kind=1;exact .inl h1
  by_cases h2:kind=2;exact .inr (.inl h2)
  by_cases h3:kind=3;exact .inr (.inr (.inl h3))
  by_cases h4:kind=4;exact .inr (.inr (.inr (.inl h4)))
  by_cases h5:kind=5;exact .inr (.inr (.inr (.inr (.inl h5))))
  by_cases h6:kind=6;exact .inr (.inr (.inr (.inr (.inr (.inl h6)))))
  by_cases h7:kind=7;exact .inr (.inr (.inr (.inr (.inr (.inr h7)))))
  simp[h1,h2,h3,h4,h5,h6,h7] at h
 rcases hk with rfl|rfl|rfl|rfl|rfl|rfl|rfl
 · simp only[Bool.and_eq_true,decide_eq_true_eq,beq_iff_eq] at h
   have hx:=h;have a1:decide ((key:Int)≤(63:Int))=true:=by simp;omega
   have a2:((key:Int)≤(63:Int))=True:=by simp;omega
   have b1:((hi:Int)==0)=true:=by simp;omega
   have b2:((hi:Int)=0)=True:=by simp;omega
   have c1:((value:Int)==0)=true:=by simp;omega
   have c2:((value:Int)=0)=True:=by simp;omega
   clear h hx;go_enter Tryz.func49,Tryz.ntmps49;go_wp2;go_ret;exact⟨rfl,HB.out⟩
 · simp only[Bool.and_eq_true,decide_eq_true_eq,beq_iff_eq] at h
   have hx:=h;have a1:decide ((key:Int)≤(63:Int))=true:=by simp;omega
   have a2:((key:Int)≤(63:Int))=True:=by simp;omega
   have b1:((hi:Int)==0)=true:=by simp;omega
   have b2:((hi:Int)=0)=True:=by simp;omega
   have c1:decide ((value:Int)≤(65535:Int))=true:=by simp;omega
   have c2:((value:Int)≤(65535:Int))=True:=by simp;omega
   clear h hx;go_enter Tryz.func49,Tryz.ntmps49;go_wp2;go_ret;exact⟨rfl,HB.out⟩
 · simp only[Bool.and_eq_true,decide_eq_true_eq,beq_iff_eq] at h
   have hx:=h;have a1:decide ((key:Int)≤(63:Int))=true:=by simp;omega
   have a2:((key:Int)≤(63:Int))=True:=by simp;omega
   have b1:((hi:Int)==0)=true:=by simp;omega
   have b2:((hi:Int)=0)=True:=by simp;omega
   have c1:decide ((value:Int)≤(65535:Int))=true:=by simp;omega
   have c2:((value:Int)≤(65535:Int))=True:=by simp;omega
   clear h hx;go_enter Tryz.func49,Tryz.ntmps49;go_wp2;go_ret;exact⟨rfl,HB.out⟩
 · simp only[Bool.and_eq_true,decide_eq_true_eq,beq_iff_eq] at h
   have hx:=h;have a1:decide ((key:Int)≤(63:Int))=true:=by simp;omega
   have a2:((key:Int)≤(63:Int))=True:=by simp;omega
   have b1:((hi:Int)==0)=true:=by simp;omega
   have b2:((hi:Int)=0)=True:=by simp;omega
   have c1:((value:Int)==0)=true:=by simp;omega
   have c2:((value:Int)=0)=True:=by simp;omega
   clear h hx;go_enter Tryz.func49,Tryz.ntmps49;go_wp2;go_ret;exact⟨rfl,HB.out⟩
 · simp only[Bool.and_eq_true,decide_eq_true_eq,beq_iff_eq] at h
   have hx:=h;have a1:decide ((key:Int)≤(63:Int))=true:=by simp;omega
   have a2:((key:Int)≤(63:Int))=True:=by simp;omega
   have b1:decide ((key:Int)≤(hi:Int))=true:=by simp;omega
   have b2:((key:Int)≤(hi:Int))=True:=by simp;omega
   have e1:decide ((hi:Int)≤(63:Int))=true:=by simp;omega
   have e2:((hi:Int)≤(63:Int))=True:=by simp;omega
   have c1:((value:Int)==0)=true:=by simp;omega
   have c2:((value:Int)=0)=True:=by simp;omega
   clear h hx;go_enter Tryz.func49,Tryz.ntmps49;go_wp2;go_ret;exact⟨rfl,HB.out⟩
 · simp only[Bool.and_eq_true,decide_eq_true_eq,beq_iff_eq] at h
   have hx:=h;have a1:((key:Int)==0)=true:=by simp;omega
   have a2:((key:Int)=0)=True:=by simp;omega
   have b1:((hi:Int)==0)=true:=by simp;omega
   have b2:((hi:Int)=0)=True:=by simp;omega
   have c1:((value:Int)==0)=true:=by simp;omega
   have c2:((value:Int)=0)=True:=by simp;omega
   clear h hx;go_enter Tryz.func49,Tryz.ntmps49;go_wp2;go_ret;exact⟨rfl,HB.out⟩
 · simp only[Bool.and_eq_true,decide_eq_true_eq,beq_iff_eq] at h
   have hx:=h;have a1:((key:Int)==0)=true:=by simp;omega
   have a2:((key:Int)=0)=True:=by simp;omega
   have b1:((hi:Int)==0)=true:=by simp;omega
   have b2:((hi:Int)=0)=True:=by simp;omega
   have c1:((value:Int)==0)=true:=by simp;omega
   have c2:((value:Int)=0)=True:=by simp;omega
   clear h hx;go_enter Tryz.func49,Tryz.ntmps49;go_wp2;go_ret;exact⟨rfl,HB.out⟩
theorem ends_op (o:En.Op) (w:World):Calls Tryz.prog 50 #[.agg #[zi (o.kind:Int),zi (o.key:Int),zi (o.hi:Int),zi (o.value:Int)]] w fun e w'=>e=.returned (.bool (opEnds o))∧Below w.heap.size w w':=by
 have hb:Below w.heap.size w (w.alloc (.cells #[zi (o.kind:Int),zi (o.key:Int),zi (o.hi:Int),zi (o.value:Int)] 31)):=(Below.refl _ _).alloc (Nat.le_refl _) _;have HB:=zH hb;clear hb;have he:opEnds o=(decide (o.kind=6)||decide (o.kind=7)):=by unfold opEnds;by_cases h1:o.kind=6<;>by_cases h2:o.kind=7<;>simp[h1,h2]
 rw[he];clear he;generalize o.kind=kd at*
 by_cases h6:kd=6
 · subst h6
   go_enter Tryz.func50,Tryz.ntmps50;go_wp2;go_ret;exact⟨rfl,HB.out⟩
 · have a1:((kd:Int)==6)=false:=by simp;omega
   have a2:((kd:Int)=6)=False:=by simp;omega
   by_cases h7:kd=7
   · have b1:((kd:Int)==7)=true:=by simp;omega
     have b2:((kd:Int)=7)=True:=by simp;omega
     have HX:=zH (zA h6 h7);clear h6 h7;go_enter Tryz.func50,Tryz.ntmps50;go_wp2;go_ret;exact⟨by simp[HX.out.1,HX.out.2],HB.out⟩
   · have b1:((kd:Int)==7)=false:=by simp;omega
     have b2:((kd:Int)=7)=False:=by simp;omega
     have HX:=zH (zA h6 h7);clear h6 h7;go_enter Tryz.func50,Tryz.ntmps50;go_wp2;go_ret;exact⟨by simp[HX.out.1,HX.out.2],HB.out⟩
theorem levelOk (l:Nat) (h1:1≤l) (h2:l≤3) (w:World):Calls Tryz.prog 72 #[zi (l:Int)] w fun e w'=>e=.returned (.bool true)∧w=w':=by
 have d1:decide ((1:Int)≤(l:Int))=true:=by simp;omega
 have d2:decide ((l:Int)≤3)=true:=by simp;omega
 have e1:((1:Int)≤(l:Int))=True:=by simp;omega
 have e2:((l:Int)≤3)=True:=by simp;omega
 have g1:(1≤l)=True:=by simp;omega
 have g2:(l≤3)=True:=by simp;omega
 have g3:(0<l)=True:=by simp;omega
 clear h1 h2;go_enter Tryz.func72,Tryz.ntmps72;go_wp2;go_ret;exact⟨rfl,rfl⟩
theorem toList_madeCells_two (a b:Value) (n:Nat):(madeCells #[a,b] (n*2)).toList=two (List.replicate n (a,b)):=by
 apply List.ext_getElem?
 intro i;have e1:(madeCells #[a,b] (n*2)).toList[i]? =if i<n*2 then some (#[a,b][i % 2]!) else none:=by
  by_cases h:i<n*2
  · rw[if_pos h];simp[madeCells,h]
  · rw[if_neg h,List.getElem?_eq_none_iff];simp[madeCells];omega
 rw[e1]
 by_cases h:i<n*2
 · rw[if_pos h]
   have hr:(List.replicate n (a,b))[i / 2]? =some (a,b):=by rw[List.getElem?_replicate,if_pos (by omega)]
   obtain⟨h0,h1⟩:=two_get (List.replicate n (a,b)) (i / 2) hr
   rcases Nat.mod_two_eq_zero_or_one i with hm|hm
   · rw[show 2*(i / 2)=i by omega] at h0
     rw[h0,hm];rfl
   · rw[show 2*(i / 2)+1=i by omega] at h1
     rw[h1,hm];rfl
 · rw[if_neg h]
   symm
   rw[List.getElem?_eq_none_iff,two_length];simp;omega
theorem infoU:(Tryz.prog.info? 186).map (fun i=>(i.zero,i.size,i.bytes))=some (some (.agg #[zu 0]),1,8):=by kernel_rfl
theorem infoV:(Tryz.prog.info? 153).map (fun i=>(i.zero,i.size,i.bytes))=some (some (.agg #[zi 0,zi 0]),2,16):=by kernel_rfl
theorem infoG:(Tryz.prog.info? 249).map (fun i=>(i.zero,i.size,i.bytes))=some (some (.agg #[zi 0,.bool false]),2,16):=by kernel_rfl
theorem make_words (n:Nat) (h:n≤100000) (w:World):(Instr.makeSlice 172 (zi (n:Int)) (zi (n:Int))).run Tryz.prog w=.ok (.slice (some ⟨w.heap.size,0,none⟩) n n) (w.alloc (.cells (madeCells #[zu 0] n) 186)):=by
 obtain⟨i,hi,hz0,hz1,hz2⟩:=info_parts infoU;have:=run_make (P:=Tryz.prog) w 172 186 i _ Tryz.underlying172 hi hz0 .i64 .i64 n n (by omega) (Int.le_refl _) (by rw[hz2];omega) (by omega);rw[hz1] at this
 simpa [Value.cells] using this
theorem make_tags (n:Nat) (h:n≤100000) (w:World):(Instr.makeSlice 181 (zi (n:Int)) (zi (n:Int))).run Tryz.prog w=.ok (.slice (some ⟨w.heap.size,0,none⟩) n n) (w.alloc (.cells (madeCells #[zi 0,.bool false] (n*2)) 249)):=by
 obtain⟨i,hi,hz0,hz1,hz2⟩:=info_parts infoG;have:=run_make (P:=Tryz.prog) w 181 249 i _ Tryz.underlying181 hi hz0 .i64 .i64 n n (by omega) (Int.le_refl _) (by rw[hz2];omega) (by omega);rw[hz1] at this
 simpa [Value.cells] using this
theorem make_values (n:Nat) (h:n≤100000) (w:World):(Instr.makeSlice 105 (zi (n:Int)) (zi (n:Int))).run Tryz.prog w=.ok (.slice (some ⟨w.heap.size,0,none⟩) n n) (w.alloc (.cells (madeCells #[zi 0,zi 0] (n*2)) 153)):=by
 obtain⟨i,hi,hz0,hz1,hz2⟩:=info_parts infoV;have:=run_make (P:=Tryz.prog) w 105 153 i _ Tryz.underlying105 hi hz0 .i64 .i64 n n (by omega) (Int.le_refl _) (by rw[hz2];omega) (by omega);rw[hz1] at this
 simpa [Value.cells] using this
theorem arenaNew (n:Nat) (h1:1≤n) (h2:n≤100000) (w:World):Calls Tryz.prog 57 #[zi (n:Int)] w fun e w'=>e=.returned (.tuple #[.pointer (some ⟨w.heap.size+1,0,none⟩),zi 0])∧w'=(w.alloc (.cells (madeCells #[zu 0] n) 186)).alloc (.cells #[.slice (some ⟨w.heap.size,0,none⟩) n n,zi 0] 177):=by
 have hm:=fun w=>make_words n h2 w
 have d1:decide ((n:Int)<1)=false:=by simp;omega
 have d2:((n:Int)<1)=False:=by simp;omega
 have d3:decide ((100000:Int)<(n:Int))=false:=by simp;omega
 have d4:((100000:Int)<(n:Int))=False:=by simp;omega
 have d5:(n<1)=False:=by simp;omega
 have d6:(100000<n)=False:=by simp;omega
 have d7:(n=0)=False:=by simp;omega
 clear h1 h2;go_enter Tryz.func57,Tryz.ntmps57;go_wp2
 go_ret2
 exact⟨rfl,rfl⟩
theorem poolNew (n:Nat) (h1:1≤n) (h2:n≤4096) (w:World):Calls Tryz.prog 58 #[zi (n:Int),zi 65535] w fun e w'=>e=.returned (.tuple #[.pointer (some ⟨w.heap.size+1,0,none⟩),zi 0])∧w'=(w.alloc (.cells (madeCells #[zi 0,.bool false] (n*2)) 249)).alloc (.cells #[.slice (some ⟨w.heap.size,0,none⟩) n n,zi 65535,.slice none 0 0,zi 0,.int .u32 0,.int .i32 0,.int .u32 0] 183):=by
 have hm:=fun w=>make_tags n (by omega) w
 have d1:decide ((n:Int)<1)=false:=by simp;omega
 have d2:((n:Int)<1)=False:=by simp;omega
 have d3:decide ((4096:Int)<(n:Int))=false:=by simp;omega
 have d4:((4096:Int)<(n:Int))=False:=by simp;omega
 have d5:(n<1)=False:=by simp;omega
 have d6:(4096<n)=False:=by simp;omega
 have d7:(n=0)=False:=by simp;omega
 clear h1 h2;go_enter Tryz.func58,Tryz.ntmps58;go_wp2
 go_ret2
 exact⟨rfl,rfl⟩
theorem confOk (n l:Nat) (h1:1≤n) (h2:n≤256) (h3:1≤l) (h4:l≤1099511627776) (w:World):Calls Tryz.prog 56 #[.agg #[zi (n:Int),zu (l:Int)]] w fun e w'=>e=.returned (.bool true)∧Below w.heap.size w w':=by
 have hb:Below w.heap.size w (w.alloc (.cells #[zi (n:Int),zu (l:Int)] 62)):=(Below.refl _ _).alloc (Nat.le_refl _) _;have HB:=zH hb;have d1:decide ((1:Int)≤(n:Int))=true:=by simp;omega
 have d2:decide ((n:Int)≤256)=true:=by simp;omega
 have d3:decide ((1:Int)≤(l:Int))=true:=by simp;omega
 have d4:decide ((l:Int)≤1099511627776)=true:=by simp;omega
 have e1:((1:Int)≤(n:Int))=True:=by simp;omega
 have e2:((n:Int)≤256)=True:=by simp;omega
 have e3:((1:Int)≤(l:Int))=True:=by simp;omega
 have e4:((l:Int)≤1099511627776)=True:=by simp;omega
 have g1:(1≤n)=True:=by simp;omega
 have g2:(n≤256)=True:=by simp;omega
 have g3:(1≤l)=True:=by simp;omega
 have g5:(0<n)=True:=by simp;omega
 have g6:(0<l)=True:=by simp;omega
 clear h1 h2 h3 h4 hb;go_enter Tryz.func56,Tryz.ntmps56;go_wp2;go_ret;exact⟨rfl,HB.out⟩
def book0 (be ba bw bp bs bv:Nat):Book where
 L:=fun k=>if k=be then some .eng else if k=ba then some .arena else if k=bw then some .words else if k=bp then some .pool else if k=bs then some .tags else if k=bv then some .values else none
 be:=be
 ba:=ba
 bw:=bw
 bp:=bp
 bs:=bs
 bv:=bv
 bt:=fun _=>0
 bm:=fun _=>0
 bc:=fun _=>0
 bx:=fun _ _=>0
 vfree:=.slice none 0 0
 vtale:=.slice none 0 0
 vcut:=.slice none 0 0
 hcut:=false
 gcut:=0
 vsweep:=.nilFunc
 vkeys:=fun _=>.slice none 0 0
 vreads:=fun _=>.slice none 0 0
 vbonds:=fun _=>.slice none 0 0
 vpairs:=fun _=>.slice none 0 0
 vnext:=fun _=>.nilFunc
 vcall:=fun _=>.pointer none
 taleCs:=[]
 cutCs:=[]
 mp:=0
 mt:=fun _=>0
 vover:=fun _=>false
theorem getD_rep {α:Type} (n s:Nat) (d:α):(List.replicate n d).getD s d=d:=by
 rw[List.getD_eq_getElem?_getD,List.getElem?_replicate]
 split<;>rfl
theorem rep_new {w:World} {n l be ba bw bp bs bv:Nat} (hn:1≤n∧n≤256)
 (d:be≠ba∧be≠bw∧be≠bp∧be≠bs∧be≠bv∧ba≠bw∧ba≠bp∧ba≠bs∧ba≠bv∧bw≠bp∧bw≠bs∧bw≠bv∧bp≠bs∧bp≠bv∧bs≠bv)
 (h1:w.heap[be]? =some (.cells #[zi (n:Int),zu (l:Int),.pointer (some ⟨ba,0,none⟩),.pointer (some ⟨bp,0,none⟩),.slice (some ⟨bv,0,none⟩) n n,.pointer none,.pointer none,.pointer none,.pointer none,.pointer none,.pointer none,.pointer none,.pointer none,.pointer none,.pointer none,.pointer none,.pointer none,.pointer none,.pointer none,.pointer none,.pointer none,zi 0,zi 0,zi 0,.slice none 0 0,.nilFunc,zu 0,.slice none 0 0,.bool false] 113))
 (h2:w.heap[ba]? =some (.cells #[.slice (some ⟨bw,0,none⟩) (73+n*3+2000+1) (73+n*3+2000+1),zi 0] 177))
 (h3:w.heap[bw]? =some (.cells (madeCells #[zu 0] (73+n*3+2000+1)) 186))
 (h4:w.heap[bp]? =some (.cells #[.slice (some ⟨bs,0,none⟩) n n,zi 65535,.slice none 0 0,zi 0,.int .u32 0,.int .i32 0,.int .u32 0] 183))
 (h5:w.heap[bs]? =some (.cells (madeCells #[zi 0,.bool false] (n*2)) 249))
 (h6:w.heap[bv]? =some (.cells (madeCells #[zi 0,zi 0] (n*2)) 153)):Live (book0 be ba bw bp bs bv) (new n l) w:=by
 obtain⟨d1,d2,d3,d4,d5,d6,d7,d8,d9,d10,d11,d12,d13,d14,d15⟩:=d;have hto:∀ (a:Array Value) (l:List Value),a.toList=l→a=l.toArray:=fun a l h=>by rw[←h]
 have e3:=hto _ _ (toList_madeCells_one (zu 0) (73+n*3+2000+1));have e5:=hto _ _ (toList_madeCells_two (zi 0) (.bool false) n);have e6:=hto _ _ (toList_madeCells_two (zi 0) (zi 0) n);rw[e3] at h3;rw[e5] at h5;rw[e6] at h6;have htx:∀ s,(new n l).txns.getD s none=none:=fun s=>getD_rep 8 s none
 have hcl:∀ s,(new n l).calls.getD s none=none:=fun s=>getD_rep 8 s none
 have hm:Holds (book0 be ba bw bp bs bv).L w (memOf (book0 be ba bw bp bs bv) (new n l)):=by
  refine⟨fun r=>?_,fun b hb=>?_⟩
  · cases r
    case eng=>exact⟨by simp[book0],h1⟩
    case arena=>exact⟨by simp[book0,Ne.symm d1],by simpa [memOf,arenaCs,new,book0,i64] using h2⟩
    case words=>exact⟨by simp[book0,Ne.symm d2,Ne.symm d6],by simpa [memOf,new,book0,u64] using h3⟩
    case pool=>exact⟨by simp[book0,Ne.symm d3,Ne.symm d7,Ne.symm d10],by simpa [memOf,poolCs,onceCs,new,book0,i64] using h4⟩
    case tags=>exact⟨by simp[book0,Ne.symm d4,Ne.symm d8,Ne.symm d11,Ne.symm d13],by simpa [memOf,tagCs,new,book0,i64] using h5⟩
    case values=>exact⟨by simp[book0,Ne.symm d5,Ne.symm d9,Ne.symm d12,Ne.symm d14,Ne.symm d15],by simpa [memOf,valueCs,new,book0,i64] using h6⟩
    case free=>exact⟨World.ownsRow_nil _ 0 _ _,fun g hg=>by cases hg⟩
    case tale=>exact⟨World.ownsRow_nil _ 0 _ _,fun g hg=>by cases hg⟩
    case cut=>trivial
    case tmp=>trivial
    case txn s=>simp only[memOf,htx];trivial
    case map s=>simp only[memOf,htx];trivial
    case cell s key=>simp only[memOf,htx];trivial
    case keys s=>simp only[memOf,htx];trivial
    case reads s=>simp only[memOf,htx];trivial
    case bonds s=>simp only[memOf,htx];trivial
    case call s=>simp only[memOf,hcl];trivial
    case pairs s=>simp only[memOf,hcl];trivial
  · have l1:=lt_of h1
    have l2:=lt_of h2;have l3:=lt_of h3;have l4:=lt_of h4;have l5:=lt_of h5;have l6:=lt_of h6;show (if b=be then some Role.eng else _)=none;rw[if_neg (by omega),if_neg (by omega),if_neg (by omega),if_neg (by omega),if_neg (by omega),if_neg (by omega)]
 refine⟨⟨hm,rfl,hn,by simp[new],by simp[new],by simp[new],by simp[new],by simp[new]⟩,rfl,fun _=>rfl,fun s _ c hc=>absurd ((hcl s).symm.trans hc) (by simp),fun s _ _=>rfl,⟨rfl,.inl ⟨rfl,rfl,rfl⟩⟩⟩
theorem engineNew (n l:Nat) (h1:1≤n) (h2:n≤256) (h3:1≤l) (h4:l≤1099511627776) (w:World):Calls Tryz.prog 26 #[.agg #[zi (n:Int),zu (l:Int)]] w fun e w'=>∃ A,e=.returned (.tuple #[.pointer (some ⟨A.be,0,none⟩),zi 0])∧Live A (new n l) w'∧Grow (fun _=>none) w A.L w':=by
 have hco:=zH (confOk n l h1 h2 h3 h4);have han:=zH (fun w=>arenaNew (73+n*3+2000+1) (by omega) (by omega) w);have hpn:=zH (fun w=>poolNew n h1 (by omega) w);have hmv:=fun w=>make_values n (by omega) w
 have ea:((73+n*3+2000+1:Nat):Int)=73+(n:Int)*3+2000+1:=by omega
 rw[ea] at han;have n1:IntKind.i64.wrap ((n:Int)*3)=(n:Int)*3:=by rw[IntKind.wrap_i64];omega
 have n2:IntKind.i64.wrap (73+(n:Int)*3)=73+(n:Int)*3:=by rw[IntKind.wrap_i64];omega
 have n3:IntKind.i64.wrap (73+(n:Int)*3+2000)=73+(n:Int)*3+2000:=by rw[IntKind.wrap_i64];omega
 have n4:IntKind.i64.wrap (73+(n:Int)*3+2000+1)=73+(n:Int)*3+2000+1:=by rw[IntKind.wrap_i64];omega
 have HN:=zH (zA h1 h2);have x0:(w.alloc (.cells #[zi (n:Int),zu (l:Int)] 62)).cell? ⟨w.heap.size,0,none⟩=some (zi (n:Int)):=by rw[cell_of_row _ _ 0 _ _ _ (heap_alloc_new w _)];rfl
 have x1:(w.alloc (.cells #[zi (n:Int),zu (l:Int)] 62)).cell? ⟨w.heap.size,1,none⟩=some (zu (l:Int)):=by rw[cell_of_row _ _ 1 _ _ _ (heap_alloc_new w _)];rfl
 have HC:Hid (∀ w1,Below (w.alloc (.cells #[zi (n:Int),zu (l:Int)] 62)).heap.size (w.alloc (.cells #[zi (n:Int),zu (l:Int)] 62)) w1→w1.cell? ⟨w.heap.size,0,none⟩=some (zi (n:Int))∧w1.cell? ⟨w.heap.size,1,none⟩=some (zu (l:Int))∧w.heap.size<w1.heap.size):=by
  intro w1 hb;have hs:=size_alloc1 w (.cells #[zi (n:Int),zu (l:Int)] 62);have hz:=hb.size;exact⟨(hb.cell (p:=⟨w.heap.size,0,none⟩) (by rw[hs];exact Nat.lt_succ_self _)).trans x0,(hb.cell (p:=⟨w.heap.size,1,none⟩) (by rw[hs];exact Nat.lt_succ_self _)).trans x1,by omega⟩
 have HB2:Hid (∀ (w1 w2:World) (a b:Obj),w2=(w1.alloc a).alloc b→w.heap.size<w1.heap.size→w1.cell? ⟨w.heap.size,0,none⟩=some (zi (n:Int))→w1.cell? ⟨w.heap.size,1,none⟩=some (zu (l:Int))→w2.cell? ⟨w.heap.size,0,none⟩=some (zi (n:Int))∧w2.cell? ⟨w.heap.size,1,none⟩=some (zu (l:Int))∧w.heap.size<w2.heap.size):=by
  rintro w1 w2 a b rfl hl k0 k1;have hb:Below w1.heap.size w1 ((w1.alloc a).alloc b):=((Below.refl _ _).alloc (Nat.le_refl _) _).alloc (by simp) _;exact⟨(hb.cell (p:=⟨w.heap.size,0,none⟩) hl).trans k0,(hb.cell (p:=⟨w.heap.size,1,none⟩) hl).trans k1,Nat.lt_of_lt_of_le hl hb.size⟩
 clear h1 h2 h3 h4 ea;go_enter Tryz.func26,Tryz.ntmps26;go_wp2_with (first|(go_at_call 56;refine (hco.out _).mono ?_;rintro e w1 ⟨rfl,hb⟩;obtain⟨y0,y1,hsz⟩:=HC.out w1 hb;have HB:=zH (zA hb hsz);clear hb hsz)|(go_at_call 57;refine (han.out _).mono ?_;rintro e w2 ⟨rfl,hw2⟩;obtain⟨z0,z1,hl2⟩:=HB2.out w1 w2 _ _ hw2 HB.out.2 y0 y1;have H2:=zH (zA hw2 hl2);clear hw2 hl2)|(go_at_call 58;refine (hpn.out _).mono ?_;rintro e w3 ⟨rfl,hw3⟩;obtain⟨u0,u1,hl3⟩:=HB2.out w2 w3 _ _ hw3 H2.out.2 z0 z1;have H3:=zH (zA hw3 hl3);clear hw3 hl3));have v0:(w3.alloc (.cells (madeCells #[zi 0,zi 0] (n*2)) 153)).cell? ⟨w.heap.size,0,none⟩=some (zi (n:Int)):=by rw[World.cell?_alloc_past _ _ _ H3.out.2];exact u0
 have v1:(w3.alloc (.cells (madeCells #[zi 0,zi 0] (n*2)) 153)).cell? ⟨w.heap.size,1,none⟩=some (zu (l:Int)):=by rw[World.cell?_alloc_past _ _ _ H3.out.2];exact u1
 go_region
 go_wp2_with fail
 go_ret2
 obtain⟨hw2,_⟩:=H2.out;obtain⟨hw3,_⟩:=H3.out;obtain⟨hb1,hl1⟩:=HB.out;have two_old:∀ (w:World) (a b:Obj),((w.alloc a).alloc b).heap[w.heap.size]? =some a:=fun w a b=>(Below.heap_alloc _ _ _ (by simp)).trans (heap_alloc_new w a)
 have s2:w2.heap.size=w1.heap.size+2:=by rw[hw2];simp
 have s3:w3.heap.size=w2.heap.size+2:=by rw[hw3];simp
 have bel:∀ (w:World) (a b:Obj),Below w.heap.size w ((w.alloc a).alloc b):=fun w a b=>((Below.refl _ _).alloc (Nat.le_refl _) _).alloc (by simp) _
 have f2a:=two_old w1 (.cells (madeCells #[zu 0] (73+n*3+2000+1)) 186) (.cells #[.slice (some ⟨w1.heap.size,0,none⟩) (73+n*3+2000+1) (73+n*3+2000+1),zi 0] 177);have f2b:=heap_alloc2_new w1 (.cells (madeCells #[zu 0] (73+n*3+2000+1)) 186) (.cells #[.slice (some ⟨w1.heap.size,0,none⟩) (73+n*3+2000+1) (73+n*3+2000+1),zi 0] 177);rw[←hw2] at f2a f2b;have f3a:=two_old w2 (.cells (madeCells #[zi 0,.bool false] (n*2)) 249) (.cells #[.slice (some ⟨w2.heap.size,0,none⟩) n n,zi 65535,.slice none 0 0,zi 0,.int .u32 0,.int .i32 0,.int .u32 0] 183);have f3b:=heap_alloc2_new w2 (.cells (madeCells #[zi 0,.bool false] (n*2)) 249) (.cells #[.slice (some ⟨w2.heap.size,0,none⟩) n n,zi 65535,.slice none 0 0,zi 0,.int .u32 0,.int .i32 0,.int .u32 0] 183);rw[←hw3] at f3a f3b;have b12:Below w1.heap.size w1 w2:=by rw[hw2];exact bel _ _ _
 have b23:Below w2.heap.size w2 w3:=by rw[hw3];exact bel _ _ _
 have b34:=(bel w3 (.cells (madeCells #[zi 0,zi 0] (n*2)) 153) (.cells #[zi (n:Int),zu (l:Int),.pointer (some ⟨w1.heap.size+1,0,none⟩),.pointer (some ⟨w2.heap.size+1,0,none⟩),.slice (some ⟨w3.heap.size,0,none⟩) n n,.pointer none,.pointer none,.pointer none,.pointer none,.pointer none,.pointer none,.pointer none,.pointer none,.pointer none,.pointer none,.pointer none,.pointer none,.pointer none,.pointer none,.pointer none,.pointer none,zi 0,zi 0,zi 0,.slice none 0 0,.nilFunc,zu 0,.slice none 0 0,.bool false] 113)).drew;have b0w:Below w.heap.size w w1:=((Below.refl _ _).alloc (Nat.le_refl _) _).trans (hb1.mono (by simp));have f4a:=two_old w3 (.cells (madeCells #[zi 0,zi 0] (n*2)) 153) (.cells #[zi (n:Int),zu (l:Int),.pointer (some ⟨w1.heap.size+1,0,none⟩),.pointer (some ⟨w2.heap.size+1,0,none⟩),.slice (some ⟨w3.heap.size,0,none⟩) n n,.pointer none,.pointer none,.pointer none,.pointer none,.pointer none,.pointer none,.pointer none,.pointer none,.pointer none,.pointer none,.pointer none,.pointer none,.pointer none,.pointer none,.pointer none,.pointer none,zi 0,zi 0,zi 0,.slice none 0 0,.nilFunc,zu 0,.slice none 0 0,.bool false] 113);have f4b:=heap_alloc2_new w3 (.cells (madeCells #[zi 0,zi 0] (n*2)) 153) (.cells #[zi (n:Int),zu (l:Int),.pointer (some ⟨w1.heap.size+1,0,none⟩),.pointer (some ⟨w2.heap.size+1,0,none⟩),.slice (some ⟨w3.heap.size,0,none⟩) n n,.pointer none,.pointer none,.pointer none,.pointer none,.pointer none,.pointer none,.pointer none,.pointer none,.pointer none,.pointer none,.pointer none,.pointer none,.pointer none,.pointer none,.pointer none,.pointer none,zi 0,zi 0,zi 0,.slice none 0 0,.nilFunc,zu 0,.slice none 0 0,.bool false] 113);refine⟨book0 (w3.heap.size+1) (w1.heap.size+1) w1.heap.size (w2.heap.size+1) w2.heap.size w3.heap.size,rfl,?_,?_⟩
 · refine rep_new HN.out (by omega) f4b ?_ ?_ ?_ ?_ f4a
   · exact (b34.block _ (by omega)).trans ((b23.block _ (by omega)).trans f2b)
   · exact (b34.block _ (by omega)).trans ((b23.block _ (by omega)).trans f2a)
   · exact (b34.block _ (by omega)).trans f3b
   · exact (b34.block _ (by omega)).trans f3a
 · have hall:=((b0w.trans (b12.mono (by omega))).trans (b23.mono (by omega))).trans (b34.mono (by omega))
   refine⟨hall.os,hall.tape,hall.output,hall.size,fun b hb _=>hall.block b hb,fun b hb=>?_,fun b hb e=>by cases e⟩;show (if b=w3.heap.size+1 then some Role.eng else _)=none;rw[if_neg (by omega),if_neg (by omega),if_neg (by omega),if_neg (by omega),if_neg (by omega),if_neg (by omega)]
end Go.Proofs.YtbefcdjcefmicaaGreat.Em
