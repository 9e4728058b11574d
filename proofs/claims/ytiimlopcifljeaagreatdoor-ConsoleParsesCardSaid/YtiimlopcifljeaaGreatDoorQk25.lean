import Derived.Test.YtiimlopcifljeaaGreatDoorQk24
import Derived.Shelf.Strings.BuilderK
namespace Go.Proofs.YtiimlopcifljeaaGreatDoor.Cn
open Go.ChangeShapes Go.WideShapes Go.ChangeAt Go.RowKit Em En
set_option linter.unusedVariables false
set_option linter.unusedSimpArgs false
set_option maxRecDepth 100000
set_option maxHeartbeats 1600000
def consO (kp:Nat):Obj:=.cells #[.pointer (some ⟨kp,0,none⟩)] 66
def playO (b:Nat):Obj:=.cells #[.pointer (some ⟨b,0,none⟩)] 89
theorem obj_cell {b:Nat} {w0 w:World} {σ:St} {gs:List (Nat×Obj)} {k:Nat} {cs:Array Value} {t:TypeId} (h:ETs b w0 gs σ w) (hm:(k,Obj.cells cs t)∈gs) {j:Nat} {v:Value} (hv:cs[j]? =some v):w.cell? ⟨k,j,none⟩=some v:=by
 rw[cell_of_row _ _ _ _ _ _ (h.obj hm)];exact hv
theorem fld_kind (a x y z:Value) (w:World):(Instr.field 166 (.agg #[a,x,y,z]) 0).run Tryz.prog w=.ok a w:=by rfl
theorem ets_mem {b:Nat} {w0 w:World} {σ:St} {gs gs':List (Nat×Obj)} (h:ETs b w0 gs σ w) (hm:∀ p∈gs',p∈gs):ETs b w0 gs' σ w:=let ⟨A,e,l,g,t⟩:=h.ex;⟨A,e,l,g,fun p hp=>t p (hm p hp)⟩
theorem ets_tail {b:Nat} {w0 w:World} {σ:St} {p:Nat×Obj} {gs:List (Nat×Obj)} (h:ETs b w0 (p::gs) σ w):ETs b w0 gs σ w:=ets_mem h fun q hq=>List.mem_cons_of_mem _ hq
theorem row5 {w:World} {g:Nat} {a b c d e:Value} {t:TypeId} (h:w.heap[g]? =some (.cells #[a,b,c,d,e] t)):(w.cell? ⟨g,0,none⟩=some a∧w.cell? ⟨g,1,none⟩=some b∧w.cell? ⟨g,2,none⟩=some c∧w.cell? ⟨g,3,none⟩=some d∧w.cell? ⟨g,4,none⟩=some e)∧w.frozen? ⟨g,0,none⟩=false∧w.frozen? ⟨g,1,none⟩=false∧w.frozen? ⟨g,2,none⟩=false∧w.frozen? ⟨g,3,none⟩=false∧w.frozen? ⟨g,4,none⟩=false:=by
 refine⟨⟨?_,?_,?_,?_,?_⟩,?_,?_,?_,?_,?_⟩<;>first|exact frozen_of_row _ _ _ _ _ h|(rw[cell_of_row _ _ _ _ _ _ h];rfl)
theorem ets_five {b k:Nat} {w0 w:World} {σ:St} {gs:List (Nat×Obj)} {a0 a1 a2 a3 a4:Value} {t:TypeId} (h:ETs b w0 ((k,.cells #[a0,a1,a2,a3,a4] t)::gs) σ w) (hk:∀ p∈gs,p.1≠k) (v0 v1 v2 v3 v4:Value):
 ETs b w0 ((k,.cells #[v0,v1,v2,v3,v4] t)::gs) σ (((((w.setCell ⟨k,0,none⟩ v0).setCell ⟨k,1,none⟩ v1).setCell ⟨k,2,none⟩ v2).setCell ⟨k,3,none⟩ v3).setCell ⟨k,4,none⟩ v4):=by
 have hz:=h.obj List.mem_cons_self;refine h.put List.mem_cons_self (But.setCells k [v0,v1,v2,v3,v4] 0 w) (heap_setCells5 hz v0 v1 v2 v3 v4) fun p hp=>?_
 rcases List.mem_cons.1 hp with rfl|hp
 · exact .inl rfl
 · exact .inr ⟨hk p hp,List.mem_cons_of_mem _ hp⟩
set_option maxHeartbeats 16000000 in
theorem whole_ts {b kc kp:Nat} {w0 w:World} {gs:List (Nat×Obj)} {σ σ1 σ2:St} (h:ETs b w0 gs σ w) (hkc:(kc,consO kp)∈gs) (hkp:(kp,playO b)∈gs) (c0 c2 c3:Int) {s F:Nat} {o:En.Op} {r:Res} (hs:s<8) (hi:issueOk σ s o=some σ1) (hF:F≤13824000) (hr:runDo F σ1 s=some (σ2,r,0)) (T:ByteArray)
 (X Y Z:Array Value) (hop:∀ W,Calls Tryz.prog 95 #[.agg #[.int .i64 c0,.int .i64 (s:Int),.int .i64 c2,.int .i64 c3]] W fun e w'=>e=.returned (.agg #[.int .i64 (o.kind:Int),.int .i64 (o.key:Int),.int .i64 (o.hi:Int),.int .i64 (o.value:Int)])∧w'=opW X Y Z W)
 (htold:∀ va vn vc W,Calls Tryz.prog 93 #[.int .i64 (o.kind:Int),.agg #[.int .i64 (r.e:Int),.int .i64 (r.value:Int),.slice va vn vc,.int .i64 (r.over:Int),.int .i64 (r.reason:Int)]] W fun e w'=>e=.returned (.string T)∧Below W.heap.size W w'):
 Calls Tryz.prog 47 #[.pointer (some ⟨kc,0,none⟩),.agg #[.int .i64 c0,.int .i64 (s:Int),.int .i64 c2,.int .i64 c3]] w fun e w'=>e=.returned (.string T)∧ETs b w0 gs σ2 w':=by
 have hT1:=h.new (.cells #[.int .i64 c0,.int .i64 (s:Int),.int .i64 c2,.int .i64 c3] 23);have HGL:Hid (∀ p∈gs,p.1<w.heap.size):=fun p hp=>(Array.getElem?_eq_some_iff.1 (h.obj (g:=p.1) (o:=p.2) hp)).1
 obtain⟨g,hg⟩:∃ g,g=w.heap.size:=⟨_,rfl⟩
 rw[←hg] at hT1;have HS:Hid (∀ (ks':List (Nat×Obj)) σ' w',ETs b w0 (ks'++(g,(.cells #[.int .i64 c0,.int .i64 (s:Int),.int .i64 c2,.int .i64 c3] 23))::gs) σ' w'→w'.cell? ⟨kc,0,none⟩=some (.pointer (some ⟨kp,0,none⟩))∧w'.cell? ⟨g,0,none⟩=some (.int .i64 c0)∧w'.cell? ⟨g,1,none⟩=some (.int .i64 (s:Int))∧w'.cell? ⟨g,2,none⟩=some (.int .i64 c2)∧w'.cell? ⟨g,3,none⟩=some (.int .i64 c3)):=by
  intro ks' σ' w' q;have hm:(g,(.cells #[.int .i64 c0,.int .i64 (s:Int),.int .i64 c2,.int .i64 c3] 23))∈ks'++(g,(.cells #[.int .i64 c0,.int .i64 (s:Int),.int .i64 c2,.int .i64 c3] 23))::gs:=List.mem_append.2 (.inr List.mem_cons_self);exact⟨obj_cell q (cs:=#[.pointer (some ⟨kp,0,none⟩)]) (t:=66) (List.mem_append.2 (.inr (List.mem_cons_of_mem _ hkc))) rfl,obj_cell q hm rfl,obj_cell q hm rfl,obj_cell q hm rfl,obj_cell q hm rfl⟩
 have HK:Hid (∀ (ks':List (Nat×Obj)) σ' w',ETs b w0 (ks'++(g,(.cells #[.int .i64 c0,.int .i64 (s:Int),.int .i64 c2,.int .i64 c3] 23))::gs) σ' w'→w'.cell? ⟨kp,0,none⟩=some (.pointer (some ⟨b,0,none⟩))):=
  fun ks' σ' w' q=>obj_cell q (cs:=#[.pointer (some ⟨b,0,none⟩)]) (t:=89) (List.mem_append.2 (.inr (List.mem_cons_of_mem _ hkp))) rfl
 have T1:=Lib.hid hT1;have HOP:=Lib.hid hop;have HTO:=Lib.hid htold;have HDO:Hid (∀ ks' w',ETs b w0 ks' σ w'→Calls Tryz.prog 94 #[.pointer (some ⟨b,0,none⟩),.int .i64 (s:Int),.agg #[.int .i64 (o.kind:Int),.int .i64 (o.key:Int),.int .i64 (o.hi:Int),.int .i64 (o.value:Int)]] w' (fun e w''=>∃ va vn vc,e=.returned (.tuple #[.agg #[.int .i64 (r.e:Int),.int .i64 (r.value:Int),.slice va vn vc,.int .i64 (r.over:Int),.int .i64 (r.reason:Int)],.int .i64 0])∧ETs b w0 ks' σ2 w'')):=fun ks' w' q=>do_ts q hs hi hF hr
 have HFK:=Lib.hid fld_kind;clear h hkc hkp hs hi hF hr hop htold hT1;generalize (o.kind:Int)=o0 at*;generalize (o.key:Int)=o1 at*;generalize (o.hi:Int)=o2 at*;generalize (o.value:Int)=o3 at*;generalize (r.e:Int)=r0 at*;generalize (r.value:Int)=r1 at*;generalize (r.over:Int)=r3 at*;generalize (r.reason:Int)=r4 at*;generalize (s:Int)=si at*;rw[hg] at HS HK T1;go_enter Tryz.func47,Tryz.ntmps47;go_upto_region 1 with fail
 generalize w.alloc (.cells #[.int .i64 c0,.int .i64 si,.int .i64 c2,.int .i64 c3] 23)=w1 at*;generalize w.heap.size=g at*;obtain⟨x0,x1,x2,x3,x4⟩:=HS.out [] _ _ T1.out;have TD:=Lib.hid T1.out.drew;have TA:Hid (ETs b w0 ((w1.heap.size,(.cells #[.int .i64 0,.int .i64 0,.slice none 0 0,.int .i64 0,.int .i64 0] 168))::_) σ (w1.alloc (.cells #[.int .i64 0,.int .i64 0,.slice none 0 0,.int .i64 0,.int .i64 0] 168)).drew):=Lib.hid (T1.out.new (.cells #[.int .i64 0,.int .i64 0,.slice none 0 0,.int .i64 0,.int .i64 0] 168)).drew;have TO:=Lib.hid (TD.out.below (opW_below X Y Z _));have TAO:=Lib.hid (TA.out.below (opW_below X Y Z _));have TOA:=Lib.hid (TO.out.new (.cells #[.int .i64 0,.int .i64 0,.slice none 0 0,.int .i64 0,.int .i64 0] 168));have HLT:Hid (∀ p∈(g,(.cells #[.int .i64 c0,.int .i64 si,.int .i64 c2,.int .i64 c3] 23))::gs,p.1≠w1.heap.size∧p.1≠(opW X Y Z w1.drew).heap.size):=fun p hp=>by
  have e1:=(Array.getElem?_eq_some_iff.1 (T1.out.obj (g:=p.1) (o:=p.2) hp)).1;have e2:=(opW_below X Y Z w1.drew).size;exact⟨by omega,by have:w1.drew.heap.size=w1.heap.size:=rfl;omega⟩
 obtain⟨a0,a1,a2,a3,a4⟩:=HS.out [] _ _ TD.out;have a5:=HK.out [] _ _ TD.out;obtain⟨b0,b1,b2,b3,b4⟩:=HS.out [_] _ _ TA.out;have b5:=HK.out [_] _ _ TA.out;obtain⟨d0,d1,d2,d3,d4⟩:=HS.out [] _ _ TO.out;have d5:=HK.out [] _ _ TO.out;obtain⟨e0,e1,e2,e3,e4⟩:=HS.out [_] _ _ TAO.out;have e5:=HK.out [_] _ _ TAO.out;obtain⟨f0,f1,f2,f3,f4⟩:=HS.out [_] _ _ TOA.out;have f5:=HK.out [_] _ _ TOA.out;refine Code.wp_mono (Q:=fun e a w=>match e with|.normal=>∃ va vn vc gR,a=⟨#[.pointer (some ⟨kc,0,none⟩),.agg #[.int .i64 c0,.int .i64 si,.int .i64 c2,.int .i64 c3],undef,.pointer (some ⟨g,0,none⟩),.string ⟨#[]⟩,.pointer (some ⟨gR,0,none⟩),.int .i64 0,.tuple #[.agg #[.int .i64 r0,.int .i64 r1,.slice va vn vc,.int .i64 r3,.int .i64 r4],.int .i64 0],.pointer (some ⟨kc,0,none⟩),.pointer (some ⟨kc,0,none⟩),.pointer (some ⟨kc,0,none⟩),.pointer (some ⟨kp,0,none⟩),.pointer (some ⟨b,0,none⟩),.pointer (some ⟨g,1,none⟩),.int .i64 si,.agg #[.int .i64 c0,.int .i64 si,.int .i64 c2,.int .i64 c3],.agg #[.int .i64 o0,.int .i64 o1,.int .i64 o2,.int .i64 o3],.tuple #[.agg #[.int .i64 r0,.int .i64 r1,.slice va vn vc,.int .i64 r3,.int .i64 r4],.int .i64 0],.agg #[.int .i64 r0,.int .i64 r1,.slice va vn vc,.int .i64 r3,.int .i64 r4],.int .i64 0,undef,undef,undef,undef,undef,undef,undef,undef,undef],[]⟩∧ETs b w0 ((gR,.cells #[.int .i64 r0,.int .i64 r1,.slice va vn vc,.int .i64 r3,.int .i64 r4] 168)::(g,.cells #[.int .i64 c0,.int .i64 si,.int .i64 c2,.int .i64 c3] 23)::gs) σ2 w|_=>False) ?_ ?_
 · intro e a w9 hq
   cases e<;>try exact hq.elim
   obtain⟨va,vn,vc,gR,rfl,T9⟩:=hq;rename_i gg Q' K hK;refine hK _ _ ?_;clear hK K TA TO TAO TOA TD a0 a1 a2 a3 a4 a5 b0 b1 b2 b3 b4 b5 d0 d1 d2 d3 d4 d5 e0 e1 e2 e3 e4 e5 f0 f1 f2 f3 f4 f5 x0 x1 x2 x3 x4 HDO HLT;go_upto_region 4 with fail
   have T9d:=Lib.hid T9.drew;have T9o:=Lib.hid (T9d.out.below (opW_below X Y Z _));obtain⟨a0,a1,a2,a3,a4⟩:=HS.out [_] _ _ T9d.out;obtain⟨⟨y0,y1,y2,y3,y4⟩,_⟩:=row5 (T9d.out.obj List.mem_cons_self);obtain⟨⟨z0,z1,z2,z3,z4⟩,_⟩:=row5 (T9o.out.obj List.mem_cons_self);have fk:=HFK.out (.int .i64 o0) (.int .i64 o1) (.int .i64 o2) (.int .i64 o3)
   go_region_law (first
     |(go_simp;go_at_call 95;refine (HOP.out _).mono ?_;rintro e w2 ⟨rfl,rfl⟩)
     |(go_simp;go_at_call 93;refine (HTO.out _ _ _ _).mono ?_;rintro e w3 ⟨rfl,hb⟩;have T10:=Lib.hid (T9o.out.below hb);clear hb))
   all_goals go_wp2
   all_goals go_ret
   all_goals exact⟨rfl,ets_tail (ets_tail T10.out)⟩
 · clear HS HK HTO HFK HGL x0 x1 x2 x3 x4 T1 TD TA
   go_region_law (first
     |(go_simp;go_at_call 35;refine (eng_any kp b _ (by assumption)).mono ?_;rintro e w' ⟨rfl,rfl⟩)
     |(go_simp;go_at_call 95;refine (HOP.out _).mono ?_;rintro e w2 ⟨rfl,rfl⟩)
     |(go_simp;go_at_call 94;(first|refine (HDO.out _ _ TO.out).mono ?_|refine (HDO.out _ _ TAO.out).mono ?_|refine (HDO.out _ _ TOA.out).mono ?_);rintro e w3 ⟨va,vn,vc,rfl,q⟩;have T3:=Lib.hid q;clear q;(first|(have hz:=T3.out.obj (o:=(.cells #[.int .i64 0,.int .i64 0,.slice none 0 0,.int .i64 0,.int .i64 0] 168)) List.mem_cons_self;obtain⟨⟨y0,y1,y2,y3,y4⟩,z0,z1,z2,z3,z4⟩:=row5 hz;clear hz)|skip)))
   all_goals first
    |exact⟨_,_,_,_,rfl,T3.out.new _⟩
    |exact⟨_,_,_,_,rfl,ets_five T3.out (fun p hp=>(HLT.out p hp).1) _ _ _ _ _⟩
    |exact⟨_,_,_,_,rfl,ets_five T3.out (fun p hp=>(HLT.out p hp).2) _ _ _ _ _⟩
end Go.Proofs.YtiimlopcifljeaaGreatDoor.Cn
namespace Go.Proofs.YtiimlopcifljeaaGreatDoor.Cn
open Go.ChangeShapes Go.WideShapes Go.ChangeAt Go.RowKit Go.Shelf Em En
set_option linter.unusedVariables false
set_option linter.unusedSimpArgs false
set_option maxRecDepth 100000
set_option maxHeartbeats 1600000
attribute [local go_sem] Oper.semAt_some
set_option linter.unusedVariables false
set_option linter.unusedSimpArgs false
set_option maxRecDepth 100000
set_option maxHeartbeats 1600000
theorem ets_ne {b:Nat} {w0 w:World} {σ:St} {gs:List (Nat×Obj)} {g k:Nat} {o o':Obj} (h:ETs b w0 gs σ w) (h1:(g,o)∈gs) (h2:(k,o')∈gs) (hne:o≠o'):g≠k:=by
 rintro rfl;exact hne (Option.some.inj ((h.obj h1).symm.trans (h.obj h2)))
def runGs (b kc kp n l:Nat) (T s:ByteArray) (o:Loop):List (Nat×Obj):=
 [(l+1,.loop o),(l,.deferred (some [])),(n+2,.cells #[.string s] 9),(n+3,.cells #[.string ⟨#[10]⟩] 9),(n+4,.cells #[.int .i64 0] 3),(n,.cells #[.pointer (some ⟨kc,0,none⟩)] 36),(kc,conO kp),(kp,plyO b)]
def RunI (b kc kp n l:Nat) (w0:World) (T:ByteArray) (S:Nat→St) (out:Nat→List UInt8) (o:Loop) (s:ByteArray) (k:Nat) (W:World):Prop:=
 ∃ (p0:Option Addr) (v:Value) (row:List (Nat×Obj)),(p0=none∨p0=some ⟨n+1,0,none⟩)∧(∀ g,v.ownBlock=some g→∃ o',(g,o')∈row)∧(∀ p∈row,∃ cs:Array Value,p.2=.cells cs 5)∧
  W.ownsRow w0.heap.size 5 1 v (out k).length (Lib.byteCells (out k))∧ETs b w0 ((n+1,.cells #[.pointer p0,v] 77)::(row++runGs b kc kp n l T s o)) (S k) W
theorem run_loop {b kc kp n l:Nat} {w0 W:World} {T s:ByteArray} {S:Nat→St} {out:Nat→List UInt8} {o:Loop} (o':Loop) {k:Nat} (h:RunI b kc kp n l w0 T S out o s k W):RunI b kc kp n l w0 T S out o' s k (W.putObj (l+1) (.loop o')):=by
 obtain⟨p0,v,row,h1,h2,h3,h4,q⟩:=h;have hm:(l+1,Obj.loop o)∈(n+1,Obj.cells #[.pointer p0,v] 77)::(row++runGs b kc kp n l T s o):=by simp[runGs]
 have hlt:=(Array.getElem?_eq_some_iff.1 (q.obj hm)).1;refine⟨p0,v,row,h1,h2,h3,own_same h4 fun g hg=>?_,q.put (o':=.loop o') hm ⟨rfl,rfl,rfl,by simp,fun k hk=>World.putObj_heap_other hk⟩ (World.putObj_heap_same hlt) fun p hp=>?_⟩
 · obtain⟨o2,ho2⟩:=h2 g hg
   obtain⟨cs,hcs⟩:=h3 _ ho2;have:g≠l+1:=ets_ne q (List.mem_cons_of_mem _ (List.mem_append.2 (.inl ho2))) hm (by rw[show o2=_ from hcs];intro e;cases e);exact World.putObj_heap_other this
 · by_cases he:p=(l+1,.loop o')
   · exact .inl he
   · refine .inr ?_
     have hp':p∈(n+1,Obj.cells #[.pointer p0,v] 77)::(row++runGs b kc kp n l T s o):=by
      simp[runGs] at hp ⊢
      rcases hp with hp|hp|hp|hp
      · exact .inl hp
      · exact .inr (.inl hp)
      · exact absurd hp he
      · exact .inr (.inr (.inr hp))
     refine⟨?_,hp'⟩;have hno:p.2≠.loop o:=by
      simp[runGs] at hp
      rcases hp with rfl|hp|hp|rfl|rfl|rfl|rfl|rfl|rfl|rfl
      all_goals first|(intro e;cases e;done)|skip
      · obtain⟨cs,hcs⟩:=h3 p hp
        rw[hcs];intro e;cases e
      · exact absurd hp he
     exact ets_ne (o:=p.2) q hp' hm hno
theorem run_set {b kc kp n l:Nat} {w0 W:World} {T s:ByteArray} (s':ByteArray) {S:Nat→St} {out:Nat→List UInt8} {o:Loop} {k:Nat} (hl:n+5≤l) (h:RunI b kc kp n l w0 T S out o s k W):RunI b kc kp n l w0 T S out o s' k (W.setCell ⟨n+2,0,none⟩ (.string s')):=by
 obtain⟨p0,v,row,h1,h2,h3,h4,q⟩:=h;have hm:(n+2,Obj.cells #[.string s] 9)∈(n+1,Obj.cells #[.pointer p0,v] 77)::(row++runGs b kc kp n l T s o):=by simp[runGs]
 have hz:=q.obj hm;have hrow:∀ p∈row,p.1≠n+2:=fun p hp=>by
  obtain⟨cs,hcs⟩:=h3 p hp;exact ets_ne q (List.mem_cons_of_mem _ (List.mem_append.2 (.inl (show (p.1,p.2)∈row from hp)))) hm (by rw[hcs];intro e;cases e)
 have hkc:kc≠n+2:=ets_ne (o:=conO kp) q (by simp[runGs]) hm (by unfold conO;intro e;cases e);have hkp:kp≠n+2:=ets_ne (o:=plyO b) q (by simp[runGs]) hm (by unfold plyO;intro e;cases e);refine⟨p0,v,row,h1,h2,h3,own_same h4 fun g hg=>?_,q.put (o':=.cells #[.string s'] 9) hm (But.setCell W ⟨n+2,0,none⟩ _) ?_ fun p hp=>?_⟩
 · obtain⟨o2,ho2⟩:=h2 g hg
   exact Below.heap_setCell _ _ _ _ (hrow _ ho2)
 · simp only[World.setCell,Array.getElem?_modify,hz]
   simp
 · simp[runGs] at hp ⊢
   rcases hp with rfl|hp|rfl|rfl|rfl|rfl|rfl|rfl|rfl|rfl
   · exact .inr (by simp)
   · exact .inr ⟨hrow p hp,by simp[hp]⟩
   · exact .inr ⟨by show l+1≠n+2;omega,by simp⟩
   · exact .inr ⟨by show l≠n+2;omega,by simp⟩
   · exact .inl rfl
   · exact .inr (by simp)
   · exact .inr (by simp)
   · exact .inr (by simp)
   · exact .inr ⟨hkc,by simp⟩
   · exact .inr ⟨hkp,by simp⟩
theorem run_str {b kc kp n l:Nat} {w0 W:World} {T s:ByteArray} {S:Nat→St} {out:Nat→List UInt8} {o:Loop} {k:Nat} (h:RunI b kc kp n l w0 T S out o s k W) (hn:w0.heap.size≤n+1):
 Calls Tryz.prog 25 #[.pointer (some ⟨n+1,0,none⟩)] W fun e w'=>e=.returned (.string ⟨(out k).toArray⟩)∧Below w0.heap.size w0 w'∧w'.heap[l]? =some (.deferred (some [])):=by
 obtain⟨p0,v,row,h1,h2,h3,h4,q⟩:=h;have hb:=q.obj List.mem_cons_self;have hd:W.heap[l]? =some (.deferred (some [])):=q.obj (by simp[runGs]);have hne:v.ownBlock≠some (n+1):=by
  intro hg;obtain⟨o2,ho2⟩:=h2 _ hg;obtain⟨cs,hcs⟩:=h3 _ ho2;exact ets_ne q (List.mem_cons_of_mem _ (List.mem_append.2 (.inl ho2))) List.mem_cons_self (by rw[show o2=_ from hcs];intro e;cases e) rfl
 have h4':W.ownsRow w0.heap.size 5 1 v (Lib.byteCells (out k)).length (Lib.byteCells (out k)):=by rw[Lib.byteCells_length];exact h4
 have hB:Lib.IsBuilder 77 5 w0.heap.size (n+1) (Lib.byteCells (out k)) W:=by
  rcases h1 with rfl|rfl
  · exact .inl ⟨hn,v,hb,h4',hne⟩
  · exact .inr ⟨hn,v,hb,h4',hne⟩
 have hF:Lib.IsBuilderF 77 5 w0.heap.size (n+1) (Lib.byteCells (out k)) W:=by
  rcases hB with hB|hB
  · exact .inl (Lib.BuilderAtF.of hB)
  · exact .inr (Lib.BuilderAtF.of hB)
 have hlow:=ets_low q;refine (Any.Builder_String_any_k Tryz.lays169 Tryz.Builder_Extra_169 w0.heap.size (n+1) (out k) W hF q.size).mono ?_;rintro e w' ⟨rfl,_,hbe,hok⟩;refine⟨rfl,hlow.trans hbe,hok l _ hd ?_ (fun c fz e=>by cases e)⟩;intro e;have e2:l=n+1:=Option.some.inj e;rw[e2,hb] at hd
 cases hd
theorem run_write {b kc kp n l:Nat} {w0 W W2:World} {T s:ByteArray} {S:Nat→St} {out:Nat→List UInt8} {o:Loop} {k:Nat} {p0:Option Addr} {v:Value} {row:List (Nat×Obj)} (h1:p0=none∨p0=some ⟨n+1,0,none⟩) (h2:∀ g,v.ownBlock=some g→∃ o',(g,o')∈row) (h3:∀ p∈row,∃ cs:Array Value,p.2=.cells cs 5)
 (h4:W.ownsRow w0.heap.size 5 1 v (out k).length (Lib.byteCells (out k))) (q:ETs b w0 ((n+1,.cells #[.pointer p0,v] 77)::(row++runGs b kc kp n l T s o)) (S k) W)
 (q2:ETs b w0 ((n+1,.cells #[.pointer p0,v] 77)::(row++runGs b kc kp n l T s o)) (S (k+1)) W2) (A:ByteArray) (m:Nat) (hA:A.size=m) (hm:(out k).length+m<5000) (hom:out (k+1)=out k++(A++⟨#[10]⟩).data.toList):
 Calls Tryz.prog 23 #[.pointer (some ⟨n+1,0,none⟩),.string (A++⟨#[10]⟩)] W2 fun e w'=>(∃ z,e=.returned (.tuple #[.int .i64 z,.nilIface]))∧RunI b kc kp n l w0 T S out o s (k+1) w':=by
 have hs:(A++⟨#[10]⟩).size=m+1:=by rw[ByteArray.size_append,hA];rfl
 have hmem:∀ g o',(g,o')∈row→(g,o')∈(n+1,Obj.cells #[.pointer p0,v] 77)::(row++runGs b kc kp n l T s o):=fun g o' h=>List.mem_cons_of_mem _ (List.mem_append.2 (.inl h))
 have hmr:∀ p∈runGs b kc kp n l T s o,p∈(n+1,Obj.cells #[.pointer p0,v] 77)::(row++runGs b kc kp n l T s o):=fun p h=>List.mem_cons_of_mem _ (List.mem_append.2 (.inr h))
 have hno:∀ p∈runGs b kc kp n l T s o,(∀ cs,p.2≠.cells cs 5)∧∀ cs,p.2≠.cells cs 77:=by
  intro p hp;simp only[runGs,List.mem_cons,List.not_mem_nil,or_false] at hp
  rcases hp with rfl|rfl|rfl|rfl|rfl|rfl|rfl|rfl<;>exact⟨fun cs e=>(by cases e),fun cs e=>(by cases e)⟩
 have hvn:v.ownBlock≠some (n+1):=by
  intro hg;obtain⟨o2,ho2⟩:=h2 _ hg;obtain⟨cs,hcs⟩:=h3 _ ho2;exact ets_ne q (hmem _ _ ho2) List.mem_cons_self (by rw[show o2=_ from hcs];intro e;cases e) rfl
 have hl:(out (k+1)).length=(out k).length+m+1:=by
  have:(A++⟨#[10]⟩).data.toList.length=m+1:=by rw[←hs];exact Array.length_toList
  rw[hom,List.length_append,this];rfl
 have hc:Lib.byteCells (out (k+1))=Lib.byteCells (out k)++Lib.strCells (A++⟨#[10]⟩):=by rw[hom];simp[Lib.byteCells,Lib.strCells]
 clear hom hA;generalize A++⟨#[10]⟩=sx at*;refine (bws_ts (rest:=runGs b kc kp n l T s o) (m:=m) sx q2 List.mem_cons_self h1 (own_same h4 fun g hg=>?_) (fun g hg=>?_) hvn (fun p hp=>?_) hs (by rw[hs];omega)).mono ?_
 · obtain⟨o2,ho2⟩:=h2 g hg
   exact (q2.obj (hmem _ _ ho2)).trans (q.obj (hmem _ _ ho2)).symm
 · obtain⟨o2,ho2⟩:=h2 g hg
   exact⟨o2,hmem _ _ ho2⟩
 · refine⟨hmr p hp,ets_ne (o:=p.2) q2 (hmr p hp) List.mem_cons_self ((hno p hp).2 _),fun e=>?_⟩
   obtain⟨o2,ho2⟩:=h2 _ e.symm;obtain⟨cs,hcs⟩:=h3 _ ho2;exact ets_ne (o:=o2) (o':=p.2) q2 (hmem _ _ ho2) (hmr p hp) (by rw[show o2=_ from hcs];exact fun e=>(hno p hp).1 _ e.symm) rfl
 · rintro e w' ⟨rfl,g,cap,o2,q3,h5,hg⟩
   refine⟨⟨_,rfl⟩,some ⟨n+1,0,none⟩,_,[(g,o2)],.inr rfl,?_,?_,by rw[hl,hc];exact h5,q3⟩
   · intro g' hg'
     cases hg'
     exact⟨o2,List.mem_cons_self⟩
   · intro p hp
     obtain rfl:=List.mem_singleton.1 hp;have hb:=q3.obj (g:=g) (o:=o2) (List.mem_cons_of_mem _ List.mem_cons_self)
     rcases h5.2 with ⟨k1,_⟩|⟨g',cap',cur,k1,_,k2,_⟩
     · cases k1
     · cases k1
       rw[hb] at k2;exact⟨_,Option.some.inj k2⟩
theorem run_any (sl li:Nat) (g1:1≤sl) (g2:sl≤256) (g3:1≤li) (g4:li≤1099511627776) (T:ByteArray) (hsz:(T.size:Int)≤10000) (N:Nat) (Sx X:Nat→ByteArray) (iX:Nat→Nat) (hT:T=Sx 0)
 (hparts:∀ k,k<N→Lib.indexByte (Sx k).data.toList 10=(iX k:Int)∧iX k+1≤(Sx k).size∧(Sx k).size<100000∧(Sx k).extract 0 (iX k)=X k∧(Sx k).extract (iX k+1) (Sx k).size=Sx (k+1)∧(Sx (k+1)).size<(Sx k).size)
 (hlast:Lib.indexByte (Sx N).data.toList 10=-1) (S:Nat→St) (outs:Nat→List UInt8) (hS:S 0=En.new sl li) (ho:outs 0=[])
 (hline : ∀ k, k ≤ N → ∀ x, x = (if k < N then X k else Sx N) → (x = ⟨#[]⟩ ∧ S (k + 1) = S k ∧ outs (k + 1) = outs k) ∨
   (((x == ⟨#[]⟩) = false ∧ (x != ⟨#[]⟩) = true ∧ x ≠ ⟨#[]⟩) ∧ ∃ (A : ByteArray) (m : Nat), A.size = m ∧ m < 1000 ∧ (outs k).length + m < 5000 ∧ outs (k + 1) = outs k ++ (A ++ ⟨#[10]⟩).data.toList ∧ ∀ (b kc kp : Nat) (w0 W : World) (gs : List (Nat × Obj)), LibV w0 → ETs b w0 gs (S k) W → (kc, conO kp) ∈ gs → (kp, plyO b) ∈ gs →
     Calls Tryz.prog 24 #[.pointer (some ⟨kc,0,none⟩),.string x] W fun e w'=>e=.returned (.string A)∧ETs b w0 gs (S (k+1)) w')) (w:World) (hL:LibV w):Calls Tryz.prog 11 #[.agg #[.int .i64 (sl:Int),.int .u64 (li:Int)],.string T] w fun e w'=>e=.returned (.string ⟨(outs (N+1)).toArray⟩)∧Below w.heap.size w w':=by
 have b1:¬ (10000:Int)<(T.size:Int):=by omega
 have b2:decide ((10000:Int)<(T.size:Int))=false:=decide_eq_false b1;have HT:=Lib.hid hT;clear hT hsz;have HN:=Lib.hid (fun W=>callsIn_wide (n:=2).2 (cnew_ts sl li g1 g2 g3 g4 W));have HS:=Lib.hid (fun s W=>callsIn_wide (n:=2).2 (splitseq_any s W));clear g1 g2 g3 g4;refine (callsIn_wide (n:=3)).1 ?_;refine callsIn_of_wp_marks Tryz.func11 rfl trivial ?_ rfl;simp only[Tryz.ntmps11,List.size_toArray,List.length_cons,List.length_nil,Nat.reduceAdd,Nat.reduceSub,Array.replicate_succ,Array.replicate_zero,List.push_toArray,List.append_toArray,List.nil_append,List.cons_append]
 gi_wp2
 refine⟨trivial,(HN.out _).mono ?_⟩;rintro e w2 ⟨b,kc,kp,rfl,q⟩;have H2:=Lib.hid q;clear q
 gi_wp2
 refine⟨trivial,(HS.out _ _).mono ?_⟩;rintro e w3 ⟨rfl,hw3⟩
 gi_wp2
 obtain⟨W0,hW0⟩:∃ W0,W0=w3:=⟨_,rfl⟩
 rw[←hw3];refine Rf.wpIn_rangeFunc_put (F:=Fence.wide) (n:=3) rfl (by decide) (gf:=61) (lb:=#[.pointer (some ⟨w2.heap.size+1+1+1,0,none⟩),.pointer (some ⟨w2.heap.size+1+1,0,none⟩),.pointer (some ⟨w2.heap.size+1+1+2,0,none⟩)]) rfl trivial (enters_of Tryz.func61 (by kernel_rfl) rfl)
  (encs:=fun x:ByteArray=>#[.string x]) (fun x=>rfl) (List.replicate (N+1) ⟨#[]⟩) (fun s pre x=>s=Sx (min pre.length N)∧x=(if pre.length<N then X pre.length else Sx N)∧pre.length≤N) T
  (fun s o pre W=>RunI b kc kp w2.heap.size w3.heap.size (w.alloc (.cells #[.int .i64 (sl:Int),.int .u64 (li:Int)] 35)) T S outs o s pre.length W) ?hI ?hput ?h0 ?hseq (fun x=>⟨#[.agg #[.int .i64 (sl:Int),.int .u64 (li:Int)],.string T,.pointer (some ⟨w.heap.size,0,none⟩),undef,.string ⟨#[]⟩,.pointer (some ⟨w2.heap.size,0,none⟩),.int .i64 0,.pointer (some ⟨w2.heap.size+1,0,none⟩),.string x,.tuple #[.pointer (some ⟨kc,0,none⟩),.int .i64 0],.agg #[.int .i64 (sl:Int),.int .u64 (li:Int)],.tuple #[.pointer (some ⟨kc,0,none⟩),.int .i64 0],.pointer (some ⟨kc,0,none⟩),.int .i64 0,.bool false,.int .i64 0,.bool false,undef,undef,undef,.bool false,.string T,.int .i64 (T.size:Int),.bool false,undef,undef,.string T,.func (.func 61) #[] #[.pointer (some ⟨w2.heap.size+1+1+1,0,none⟩),.pointer (some ⟨w2.heap.size+1+1,0,none⟩),.pointer (some ⟨w2.heap.size+1+1+2,0,none⟩)],.string x,undef,undef,undef,undef,undef,undef,undef,undef],[]⟩) ?hassign ?hbody ?hdone
 case hassign=>
  intro l x W K hK
  gi_wp2
  exact hK
 case hI=>
  rintro s o pre W ⟨p0,v,row,_,_,_,_,q⟩;exact⟨q.obj (by simp[runGs]),q.obj (by simp[runGs])⟩
 case hput=>
  intro s o o' pre W hi;exact run_loop o' hi
 case h0=>
  intro o;have e0:w3.heap.size=w2.heap.size+5:=by rw[hw3];simp
  have q:=(((((((H2.out.new (.cells #[.pointer (some ⟨kc,0,none⟩)] 36)).new (.cells #[.pointer none,.slice none 0 0] 77)).new (.cells #[.string T] 9)).new (.cells #[.string ⟨#[10]⟩] 9)).new (.cells #[.int .i64 0] 3)).new (.deferred (some []))).new (.loop o))
  rw[←hw3,←hS] at q;refine⟨none,.slice none 0 0,[],.inl rfl,fun g hg=>(by cases hg),fun p hp=>(by cases hp),(by rw[show outs ([]:List ByteArray).length=[] from ho];exact World.ownsRow_nil _ _ _ _),ets_mem q fun p hp=>?_⟩;simp[runGs,e0] at hp ⊢
  rcases hp with rfl|rfl|rfl|rfl|rfl|rfl|rfl|rfl|rfl<;>simp
 case hseq=>
  intro o W hi hY;have e5:w3.heap.size=w2.heap.size+5:=by rw[hw3];simp
  refine (seq1_in 2 (w3.heap.size+1) (w2.heap.size+1+1+1) (w2.heap.size+1+1) (w2.heap.size+1+1+2) N Sx X iX (fun s k W=>RunI b kc kp w2.heap.size w3.heap.size (w.alloc (.cells #[.int .i64 (sl:Int),.int .u64 (li:Int)] 35)) T S outs o s k W) hparts hlast ?_ ?_ ?_ ?_ W (by rw[←HT.out];exact hi)).mono ?_
  · rintro s k W ⟨p0,v,row,_,_,_,_,q⟩
    have g1:=q.obj (g:=w2.heap.size+2) (o:=.cells #[.string s] 9) (by simp[runGs]);have g2:=q.obj (g:=w2.heap.size+3) (o:=.cells #[.string ⟨#[10]⟩] 9) (by simp[runGs]);have g3:=q.obj (g:=w2.heap.size+4) (o:=.cells #[.int .i64 0] 3) (by simp[runGs]);exact⟨by rw[cell_of_row _ _ _ _ _ _ g1];rfl,frozen_of_row _ _ _ _ _ g1,by rw[cell_of_row _ _ _ _ _ _ g2];rfl,by rw[cell_of_row _ _ _ _ _ _ g3];rfl⟩
  · exact fun s s' k W h=>run_set s' (by omega) h
  · intro k W hk h
    have e := hY (Sx k) (List.replicate k ⟨#[]⟩) (X k) W (by rw [List.length_replicate]; exact h) (by
      rw[List.length_replicate,Nat.min_eq_left (by omega),if_pos hk]
      exact⟨rfl,rfl,by omega⟩)
    rw[List.length_append,List.length_replicate] at e;exact e
  · intro W h
    have e := hY (Sx N) (List.replicate N ⟨#[]⟩) (Sx N) W (by rw [List.length_replicate]; exact h) (by
      rw[List.length_replicate,Nat.min_self,if_neg (Nat.lt_irrefl _)]
      exact⟨rfl,rfl,Nat.le_refl _⟩)
    rw[List.length_append,List.length_replicate] at e;exact e
  · rintro e W' ⟨hv,h⟩
    exact⟨hv,Sx N,by rw[List.length_replicate];exact h⟩
 case hbody=>
  rintro s o l pre x W hi ⟨hs,hx,hlen⟩
  rcases hline pre.length hlen x hx with ⟨rfl,e1,e2⟩|⟨hx0,A,m,hA,hm,hom,e2,hDo⟩
  · clear hline hx hs
    have hI2:RunI b kc kp w2.heap.size w3.heap.size (w.alloc (.cells #[.int .i64 (sl:Int),.int .u64 (li:Int)] 35)) T S outs o s (pre.length+1) W:=by
     obtain⟨p0,v,row,h1,h2,h3,h4,q⟩:=hi;exact⟨p0,v,row,h1,h2,h3,by rw[e2];exact h4,by rw[e1];exact q⟩
    rw[show w3.heap.size=w2.heap.size+1+1+1+1+1 from by rw[hw3];simp] at hI2;have HI2:=Lib.hid hI2;clear hI2 hi e1 e2
    gi_wp2
    exact HI2.out
  · clear hline hx hs
    obtain⟨hx1,hx2,hx3⟩:=hx0;obtain⟨p0,v,row,h1,h2,h3,h4,q⟩:=hi;have cx:W.cell? ⟨w2.heap.size,0,none⟩=some (.pointer (some ⟨kc,0,none⟩)):=by
     rw[cell_of_row _ _ _ _ _ _ (q.obj (g:=w2.heap.size) (o:=.cells #[.pointer (some ⟨kc,0,none⟩)] 36) (by simp[runGs]))];rfl
    have HD:=Lib.hid (hDo b kc kp _ W _ (hL.below ((Below.refl _ w).alloc (Nat.le_refl _) _)) q (by simp[runGs]) (by simp[runGs]));have HQ:=Lib.hid (fun W2 q2=>run_write h1 h2 h3 h4 q q2 (W2:=W2) A m hA hom e2);have hs1:¬ (9223372036854775807:Nat)<A.size+(⟨#[10]⟩:ByteArray).size:=by rw[hA];show ¬ _<m+1;omega
    clear h1 h2 h3 h4 hDo q hom e2 hA hm
    gi_wp2
    · refine⟨trivial,(CallsIn.inRound l (callsIn_wide.2 HD.out)).mono ?_⟩
      rintro e W2 ⟨rfl,q2⟩;have HW:=Lib.hid (HQ.out W2 q2);clear q2 HD HQ
      gi_wp2
      refine⟨trivial,(CallsIn.inRound l (callsIn_wide.2 HW.out)).mono ?_⟩;rintro e W3 ⟨⟨z,rfl⟩,hI3⟩;rw[show w3.heap.size=w2.heap.size+1+1+1+1+1 from by rw[hw3];simp] at hI3;have HI3:=Lib.hid hI3;clear hI3 HW
      gi_wp2
      exact HI3.out
    · rename_i hz
      refine absurd ?_ hx3;have hz2:x.toList.isEmpty=true:=by simpa using hz
      rw[ByteArray.toList_eq,List.isEmpty_iff] at hz2
      cases x with|mk d=>exact congrArg ByteArray.mk (Array.toList_eq_nil_iff.1 hz2)
 case hdone=>
  intro s o W hi;rw[List.length_replicate] at hi;have e1:(w.alloc (.cells #[.int .i64 (sl:Int),.int .u64 (li:Int)] 35)).heap.size≤w2.heap.size+1:=Nat.le_trans H2.out.size (Nat.le_succ _);have hR:=callsIn_wide (n:=2).2 (run_str hi e1)
  gi_wp2
  refine⟨trivial,hR.mono ?_⟩;rintro e w5 ⟨rfl,hb,hD⟩
  gi_wp2
  rw[show w3.heap.size=w2.heap.size+1+1+1+1+1 from by rw[hw3];simp] at hD;refine⟨by simp,.inl ⟨_,_,rfl,run_takeDeferred hD,?_⟩⟩;have hw:w.heap.size≤w2.heap.size:=Nat.le_trans (by simp) H2.out.size;have hb0:Below w.heap.size w w5:=((Below.refl _ w).alloc (Nat.le_refl _) _).trans (hb.mono (by simp));exact⟨_,results_tmp rfl _ _ _,rfl,hb0.trans (belowK_b (w:=w) (Nat.le_refl _) w5 _ _ _ (by omega) hD rfl rfl)⟩
end Go.Proofs.YtiimlopcifljeaaGreatDoor.Cn
namespace Go.Proofs.YtiimlopcifljeaaGreatDoor.Cn
open Go.ChangeShapes Go.WideShapes Go.ChangeAt Go.RowKit Go.Shelf Em En
set_option linter.unusedVariables false
set_option linter.unusedSimpArgs false
set_option maxRecDepth 100000
set_option maxHeartbeats 1600000
def awA (k:Nat):ByteArray:=[⟨#[111,107,32,49]⟩,⟨#[111,107]⟩,⟨#[]⟩,⟨#[111,107,32,100,111,110,101]⟩,⟨#[111,107,32,53,61,55]⟩,⟨#[101,114,114,111,114,32,51]⟩].getD k ⟨#[]⟩
def awO:Nat→List UInt8
 |0=>[]
 |k+1=>awO k++(if k=2∨6≤k then [] else (awA k++⟨#[10]⟩).data.toList)
theorem run_awake (w:World) (hL:LibV w):Calls Tryz.prog 11 #[.agg #[.int .i64 60,.int .u64 500],.string ⟨#[98,101,103,105,110,32,48,32,51,10,105,110,115,101,114,116,32,48,32,53,32,55,10,10,99,111,109,109,105,116,32,48,10,112,97,105,114,115,10,122,122,10]⟩] w fun e w'=>e=.returned (.string ⟨#[111,107,32,49,10,111,107,10,111,107,32,100,111,110,101,10,111,107,32,53,61,55,10,101,114,114,111,114,32,51,10]⟩)∧Below w.heap.size w w':=by
 obtain⟨σ1,σ2,σ3,r,σ4,σ5,r',e1,e2,e3,hr,e4,e5,hr',hok,hp⟩:=run_57;refine run_any 60 500 (by decide) (by decide) (by decide) (by decide) (awS 0) (by decide +kernel) 6 awS awX awI rfl aw_parts aw_last (fun k=>[En.new 60 500,σ1,σ3,σ3,σ5].getD k σ5) awO rfl rfl ?_ w hL;intro k hk x hx
 match k,hk with
 |0,_=>
  obtain rfl:x=awX 0:=hx;exact .inr ⟨⟨by decide +kernel,by decide +kernel,by decide +kernel⟩,awA 0,4,rfl,by decide,by decide,rfl,fun b kc kp w0 W gs hl q h1 h2=>(do_begin q hl h1 h2 (awX 0) 0 3 1 (by decide +kernel) (by decide) e1 (by decide) (by decide +kernel)).mono (by rintro e w' ⟨rfl,h⟩;exact⟨congrArg (fun x=>Ending.returned (.string x)) (by decide +kernel),h⟩)⟩
 |1,_=>
  obtain rfl:x=awX 1:=hx
  exact .inr ⟨⟨by decide +kernel, by decide +kernel, by decide +kernel⟩, awA 1, 2, rfl, by decide, by decide, rfl, fun b kc kp w0 W gs hl q h1 h2 => do_whole q hl h1 h2 (awX 1) (awA 1) 3 0 5 7 (.inl rfl) (by decide +kernel) fun gs' w' q' m1 m2 =>
    whole_ts q' m1 m2 3 5 7 (s:=0) (F:=runF) (o:=opI) (by decide) e2 (by decide) e3 (awA 1) _ _ _ (fun W=>op_ins 0 5 7 W) (fun va vn vc W=>by rw[hr];exact told_ins _ _ _ va vn vc W)⟩
 |2,_=>
  obtain rfl:x=awX 2:=hx;exact .inl ⟨rfl,rfl,List.append_nil _⟩
 |3,_=>
  obtain rfl:x=awX 3:=hx
  exact .inr ⟨⟨by decide +kernel, by decide +kernel, by decide +kernel⟩, awA 3, 7, rfl, by decide, by decide, rfl, fun b kc kp w0 W gs hl q h1 h2 => do_whole q hl h1 h2 (awX 3) (awA 3) 7 0 0 0 (.inr rfl) (by decide +kernel) fun gs' w' q' m1 m2 =>
    whole_ts q' m1 m2 7 0 0 (s:=0) (F:=runF) (o:=opC) (by decide) e4 (by decide) e5 (awA 3) _ _ _ (fun W=>op_com W) (fun va vn vc W=>by rw[hr'];exact told_com _ _ _ va vn vc W)⟩
 |4,_=>
  obtain rfl:x=awX 4:=hx;exact .inr ⟨⟨by decide +kernel,by decide +kernel,by decide +kernel⟩,awA 4,6,rfl,by decide,by decide,rfl,fun b kc kp w0 W gs hl q h1 h2=>do_pairs q hl h1 h2 (awX 4) (by decide +kernel) hok hp⟩
 |5,_=>
  obtain rfl:x=awX 5:=hx;exact .inr ⟨⟨by decide +kernel,by decide +kernel,by decide +kernel⟩,awA 5,7,rfl,by decide,by decide,rfl,fun b kc kp w0 W gs hl q h1 h2=>(do_bad q hl (awX 5) 0 0 0 0 3 (by decide +kernel) (by decide) (by decide)).mono (by rintro e w' ⟨rfl,h⟩;exact⟨congrArg (fun x=>Ending.returned (.string x)) (by decide +kernel),h⟩)⟩
 |6,_=>
  obtain rfl:x=awS 6:=hx;exact .inl ⟨rfl,rfl,List.append_nil _⟩
theorem awake28 (w:World) (hL:LibV w):Calls Tryz.prog 7 #[] w fun e w'=>e=.returned (.bool true)∧Below w.heap.size w w':=by
 have HC:=Lib.hid conf_any;have HR:=Lib.hid run_awake;have HL:=Lib.hid hL;clear hL;go_enter Tryz.func7,Tryz.ntmps7
 go_wp2_with (first
   |(go_at_call 12;refine (HC.out _).mono ?_;rintro e w2 ⟨rfl,hb⟩;have B2:=Lib.hid hb;clear hb)
   |(go_at_call 11;refine (HR.out _ (HL.out.below B2.out)).mono ?_;rintro e w3 ⟨rfl,hb⟩;have B3:=Lib.hid hb;clear hb))
 go_ret;exact⟨rfl,B2.out.trans (B3.out.mono B2.out.size)⟩
theorem cmR_four (s:ByteArray):∃ c0 c1 c2 c3 e:Int,cmR s=([c0,c1,c2,c3],e):=by
 unfold cmR
 split
 · exact⟨_,_,_,_,_,rfl⟩
 · cases Tt.refCmd (bl s) with
   |none=>exact⟨_,_,_,_,_,rfl⟩
   |some p=>exact⟨_,_,_,_,_,rfl⟩
theorem parse_at {s:ByteArray} {c0 c1 c2 c3 er:Int} (h:cmR s=([c0,c1,c2,c3],er)) {w:World} (hL:LibV w):Calls Tryz.prog 6 #[.string s] w fun e w'=>e=.returned (.tuple #[.agg #[.int .i64 c0,.int .i64 c1,.int .i64 c2,.int .i64 c3],.int .i64 er])∧Below w.heap.size w w':=by
 have hp:=parse_any s hL;rw[h] at hp;exact hp
theorem refc_at {s:ByteArray} {c0 c1 c2 c3 er:Int} (h:cmR s=([c0,c1,c2,c3],er)) (w:World):Calls Tryz.prog 8 #[.string s] w fun e w'=>e=.returned (.tuple #[.agg #[.int .i64 c0,.int .i64 c1,.int .i64 c2,.int .i64 c3],.int .i64 er])∧Below w.heap.size w w':=by
 have hp:=cmd_any s w;rw[h] at hp;exact hp
theorem cmd_cells {w2 w3:World} {v0 v1 v2 v3:Value} {T:TypeId} (hb:Below (w2.alloc (.cells #[v0,v1,v2,v3] T)).heap.size (w2.alloc (.cells #[v0,v1,v2,v3] T)) w3) (o:Obj):
 (w3.alloc o).cell? ⟨w2.heap.size,0,none⟩=some v0∧(w3.alloc o).cell? ⟨w2.heap.size,1,none⟩=some v1∧(w3.alloc o).cell? ⟨w2.heap.size,2,none⟩=some v2∧(w3.alloc o).cell? ⟨w2.heap.size,3,none⟩=some v3:=by
 have h1:w3.heap[w2.heap.size]? =some (.cells #[v0,v1,v2,v3] T):=(hb.block _ (by simp)).trans (heap_alloc_new _ _);have h2:(w3.alloc o).heap[w2.heap.size]? =some (.cells #[v0,v1,v2,v3] T):=by
  rw[Below.heap_alloc _ _ _ (Array.getElem?_eq_some_iff.1 h1).1];exact h1
 exact⟨by rw[cell_of_row _ _ _ _ _ _ h2];rfl,by rw[cell_of_row _ _ _ _ _ _ h2];rfl,by rw[cell_of_row _ _ _ _ _ _ h2];rfl,by rw[cell_of_row _ _ _ _ _ _ h2];rfl⟩
theorem parses_any (s:ByteArray) (w:World) (hL:LibV w):Calls Tryz.prog 4 #[.string s] w fun e w'=>e=.returned (.bool true)∧Below w.heap.size w w':=by
 obtain⟨c0,c1,c2,c3,er,hc⟩:=cmR_four s;have HP:=Lib.hid (parse_at hc hL);have HF:=Lib.hid (fun w=>refc_at hc w);have HA:=Lib.hid (fun (w':World) (h:Below w.heap.size w w')=>awake28 w' (hL.below h));clear hc hL;go_enter Tryz.func4,Tryz.ntmps4
 go_wp2_with (first
   |(go_at_call 6;refine HP.out.mono ?_;rintro e w2 ⟨rfl,hb⟩;have B2:=Lib.hid hb;clear hb)
   |(go_at_call 8;refine (HF.out _).mono ?_;rintro e w3 ⟨rfl,hb⟩;obtain⟨k0,k1,k2,k3⟩:=cmd_cells hb (.cells #[.int .i64 c0,.int .i64 c1,.int .i64 c2,.int .i64 c3] 23);have B3:=Lib.hid (((B2.out.alloc B2.out.size _).trans (hb.mono (by have:=B2.out.size;simp;omega))).alloc (by have:=B2.out.size;have:=hb.size;simp at this;omega) (.cells #[.int .i64 c0,.int .i64 c1,.int .i64 c2,.int .i64 c3] 23));clear hb)
   |(go_at_call 7;refine (HA.out _ B3.out).mono ?_;rintro e w4 ⟨rfl,hb⟩;have B4:=Lib.hid (B3.out.trans (hb.mono B3.out.size));clear hb))
 go_ret;exact⟨rfl,B4.out⟩
end Go.Proofs.YtiimlopcifljeaaGreatDoor.Cn
